import Derived.Test.YtfpedicgeepikaaProg
import Derived.Below
import Derived.Deep.Draws
import Derived.Deep.AppendLies
import Derived.Maps.AppendAt
import Derived.OwnWalk
import Derived.Laws.BytesArg
import Derived.Laws.MakeOwn
import Derived.Laws.OwnMore
import Derived.Deep.OwnRows
import Derived.Tactics
import Derived.Lib.ConvBytes
import Derived.Laws.Slices
import Derived.WalkKit
import Derived.KernelRfl
import Derived.RowKit3
import Derived.Deep.LoopGhost
import Derived.Deep.QuietTactic
import Derived.BigQuiet
import Derived.WideLaws
import Derived.Deep.DeepCutAuto
import Derived.Deep.CutBlock
import Derived.Deep.RegionHeld3
import Derived.Laws.Rows
import Derived.Lib.AppendStr
import Derived.ArgAppend
import Derived.Laws.IdiomCopy
import Derived.OrdersHeld
import Derived.Laws.BitsLemmas
import Derived.RowKit
import Derived.Test.YtfpedicgeepikaaWWords
import Derived.Test.YtfpedicgeepikaaWLast
import Derived.Test.YtfpedicgeepikaaWTab
import Derived.Test.YtfpedicgeepikaaWQPut
import Derived.Test.YtfpedicgeepikaaWApart
import Derived.Test.YtfpedicgeepikaaWArr
import Derived.Test.YtfpedicgeepikaaWZeros
import Derived.Test.YtfpedicgeepikaaWFoot
import Derived.Test.YtfpedicgeepikaaWKept
import Derived.Test.YtfpedicgeepikaaWShare
import Derived.Test.YtfpedicgeepikaaWN
import Derived.Test.YtfpedicgeepikaaWRepsOne
import Derived.Test.YtfpedicgeepikaaWGuard
import Derived.Test.YtfpedicgeepikaaWNEv
import Derived.Test.YtfpedicgeepikaaWMore
import Derived.Test.YtfpedicgeepikaaG5

namespace Go.Proofs.Ytfpedicgeepikaa.G
open Go.RowKit Go.Proofs.YtfpedicgeepikaaW.PrintWords Go.Proofs.YtfpedicgeepikaaW.PrintLast Go.Proofs.YtfpedicgeepikaaW.PrintMore
attribute [local go_sem] max2_int min2_int max_two min_two max_three min_three max_four min_four
set_option linter.unusedVariables false
set_option linter.unusedSimpArgs false

open Go.Proofs.Ytfpedicgeepikaa.Pr
/-! ### wild_sayBoth: function 26 -/
mutual
def wild_sayBoth.l0 : Nat → Bool → Int → (S26 × S26) → List ByteArray → List ByteArray → List ByteArray → Int → Int → Option (Int × ByteArray × List ByteArray × Int × Bool)
 | 0, _, _, _, _, _, _, _, _ => none
 | k + 1, x1, x2, x3, x10, x11, x14, x15, x16 => if x16 < x15 then (if 0 ≤ x16 then (if x16 < (x14.length : Int) then ((wild_clBoth.f k x3 (rdOf ByteArray.empty x14 x16)).bind fun t136 => (if t136 = true then (if x10.length < 8796093022208 then (wild_sayBoth.l0 k x1 x2 x3 (x10 ++ [rdOf ByteArray.empty x14 x16]) x11 x14 x15 (wrap64 (x16 + 1))) else (none)) else (if x11.length < 8796093022208 then (wild_sayBoth.l0 k x1 x2 x3 x10 (x11 ++ [rdOf ByteArray.empty x14 x16]) x14 x15 (wrap64 (x16 + 1))) else (none)))) else (none)) else (none)) else (if x1 = true then (if (x11.length : Int) = 0 then (some (1, (⟨#[]⟩ : ByteArray), ([] : List ByteArray), x2, true)) else (if 0 < (x11.length : Int) then (if (rdOf ByteArray.empty x11 0).toList = ([] : List UInt8) then (wild_sayBoth.j1 k x2 x11 (decide ((x11.length : Int) > 2))) else (wild_sayBoth.j1 k x2 x11 true)) else (none))) else ((G.wild_these.f x10 x2).bind fun bt145 => (some (bt145.1, bt145.2.1, bt145.2.2.1, bt145.2.2.2, true))))
def wild_sayBoth.j1 : Nat → Int → List ByteArray → Bool → Option (Int × ByteArray × List ByteArray × Int × Bool)
 | 0, _, _, _ => none
 | k + 1, x2, x11, x44 => if x44 = true then (some (0, (⟨#[]⟩ : ByteArray), ([] : List ByteArray), 0, false)) else (if (x11.length : Int) = 2 then (if 1 < (x11.length : Int) then (some (2, rdOf ByteArray.empty x11 1, ([] : List ByteArray), x2, true)) else (none)) else (some (2, (⟨#[]⟩ : ByteArray), ([] : List ByteArray), x2, true)))
end
def wild_sayBoth.f (k : Nat) (l0 : List ByteArray) (a1 : Bool) (a2 : Int) (a3 : S26 × S26) : Option (Int × ByteArray × List ByteArray × Int × Bool) := wild_sayBoth.l0 k a1 a2 a3 ([] : List ByteArray) ([] : List ByteArray) l0 (l0.length : Int) 0
theorem wild_sayBoth.mono_l : ∀ k, (∀ y0 y1 y2 y3 y4 y5 y6 y7, LeO (wild_sayBoth.l0 k y0 y1 y2 y3 y4 y5 y6 y7) (wild_sayBoth.l0 (k + 1) y0 y1 y2 y3 y4 y5 y6 y7)) ∧ (∀ y0 y1 y2, LeO (wild_sayBoth.j1 k y0 y1 y2) (wild_sayBoth.j1 (k + 1) y0 y1 y2))
 | 0 => ⟨fun _ _ _ _ _ _ _ _ r h => by simp [wild_sayBoth.l0] at h, fun _ _ _ r h => by simp [wild_sayBoth.j1] at h⟩
 | k + 1 => by
  obtain ⟨ih0, ih1⟩ := wild_sayBoth.mono_l k
  refine ⟨?_, ?_⟩
  ·intro y0 y1 y2 y3 y4 y5 y6 y7
   unfold wild_sayBoth.l0
   repeat' first
   | (with_reducible exact ih0 _ _ _ _ _ _ _ _)
   | (with_reducible exact ih1 _ _ _)
   | (with_reducible exact wild_clBoth.mono _ _ _)
   | (with_reducible exact LeO.refl _)
   | (with_reducible exact LeO.none _)
   | (with_reducible refine LeO.ite ?_ ?_)
   | (with_reducible refine LeO.bind ?_ (fun _ => ?_))
   | exact ih0 _ _ _ _ _ _ _ _
   | exact ih1 _ _ _
   | exact wild_clBoth.mono _ _ _
   | exact LeO.none _
   | refine LeO.ite ?_ ?_
   | refine LeO.bind ?_ (fun _ => ?_)
  ·intro y0 y1 y2
   unfold wild_sayBoth.j1
   repeat' first
   | (with_reducible exact ih0 _ _ _ _ _ _ _ _)
   | (with_reducible exact ih1 _ _ _)
   | (with_reducible exact wild_clBoth.mono _ _ _)
   | (with_reducible exact LeO.refl _)
   | (with_reducible exact LeO.none _)
   | (with_reducible refine LeO.ite ?_ ?_)
   | (with_reducible refine LeO.bind ?_ (fun _ => ?_))
   | exact ih0 _ _ _ _ _ _ _ _
   | exact ih1 _ _ _
   | exact wild_clBoth.mono _ _ _
   | exact LeO.none _
   | refine LeO.ite ?_ ?_
   | refine LeO.bind ?_ (fun _ => ?_)
theorem wild_sayBoth.mono : ∀ a0 a1 a2 a3 k, LeO (wild_sayBoth.f k a0 a1 a2 a3) (wild_sayBoth.f (k + 1) a0 a1 a2 a3) := by
 intro a0 a1 a2 a3 k
 obtain ⟨ih0, ih1⟩ := wild_sayBoth.mono_l k
 unfold wild_sayBoth.f
 repeat' first
   | (with_reducible exact ih0 _ _ _ _ _ _ _ _)
   | (with_reducible exact ih1 _ _ _)
   | (with_reducible exact wild_clBoth.mono _ _ _)
   | (with_reducible exact LeO.refl _)
   | (with_reducible exact LeO.none _)
   | (with_reducible refine LeO.ite ?_ ?_)
   | (with_reducible refine LeO.bind ?_ (fun _ => ?_))
   | exact ih0 _ _ _ _ _ _ _ _
   | exact ih1 _ _ _
   | exact wild_clBoth.mono _ _ _
   | exact LeO.none _
   | refine LeO.ite ?_ ?_
   | refine LeO.bind ?_ (fun _ => ?_)
set_option maxHeartbeats 8000000 in
set_option maxRecDepth 100000 in
theorem wild_sayBoth.calls (k : Nat) (A0 : Option Addr) (c0 : Nat) (l0 : List ByteArray) (a1 : Bool) (a2 : Int) (a3 : S26 × S26) (r1 : Int) (r2 : ByteArray) (r3 : List ByteArray) (r4 : Int) (r5 : Bool) (w : World) (gA gB : Nat) (AA AB : Option Addr) (cA cB : Nat) (hgA : w.heap[gA]? = some (boxed a3.1 AA cA)) (hgB : w.heap[gB]? = some (boxed a3.2 AB cB)) (hrA : Kd.C Kd.string w AA a3.1.f2.length a3.1.f2) (hcA : a3.1.f2.length ≤ cA) (hrB : Kd.C Kd.string w AB a3.2.f2.length a3.2.f2) (hcB : a3.2.f2.length ≤ cB) (hr0 : Kd.C Kd.string w A0 l0.length l0) (hc0 : l0.length ≤ c0) (h : wild_sayBoth.f k l0 a1 a2 a3 = some (r1, r2, r3, r4, r5)) :
  Calls Try.prog 26 #[.slice A0 l0.length c0, .bool a1, .int .i64 a2, .func (.func 32) #[] #[.pointer (some ⟨gA, 0, none⟩), .pointer (some ⟨gB, 0, none⟩)]] w fun e w' => ∃ v2_ : Value, e = .returned (.tuple #[.agg #[.int .i64 r1, .string r2, v2_, .int .i64 r4], .bool r5]) ∧ Kd.V Kd.string 9 w' w.heap.size (fun k_ => (w.heap.size ≤ k_)) v2_ r3 ∧ Below w.heap.size w w' := by
 have HGA := Aside0.mk hgA
 have HGB := Aside0.mk hgB
 have HRA := Aside0.mk hrA
 have HRB := Aside0.mk hrB
 have HCA := Aside0.mk hcA
 have HCB := Aside0.mk hcB
 clear hgA hgB hrA hrB hcA hcB
 have hu26 := Try.underlying26
 have HR0 := Aside0.mk hr0
 have HC0 := Aside0.mk hc0
 clear hr0 hc0
 have HB := Aside0.mk (Below.refl w.heap.size w)
 have H : (wild_sayBoth.l0 k a1 a2 a3 ([] : List ByteArray) ([] : List ByteArray) l0 (l0.length : Int) 0) = some (r1, r2, r3, r4, r5) := h
 clear h
 have H' := Aside0.mk H
 clear H
 go_enter Try.func26, Try.ntmps26
 go_wp2_with (first | ((with_reducible refine gate_dst (N := 8) rfl ?_); (try (refine gate_guard (by rfl) ?_; dsimp only)); refine box_event ?hg (N := 8) ?hd (cs := #[.int .i64 0, .string (⟨#[]⟩ : ByteArray), .slice none 0 0, .int .i64 0]) (t := 26) ?hr ?_; (case hd => rfl); (case hg => rfl); (case hr => first | (go_simp; done) | (go_simp; rfl)); intro gb134 hg w5 hbox hb; have n0_ := Aside0.mk (below_step (by repeat (first | (with_reducible first | exact HB.out | apply below_alloc | apply pw_below_drewN | apply below_drew1) | exact HB.out)) hb); have n1_ := Aside0.mk (hbox); have n2_ := Aside0.mk ((by rw [hg]; exact (below_size (by repeat (first | (with_reducible first | exact HB.out | apply below_alloc | apply pw_below_drewN | apply below_drew1) | exact HB.out))) : w.heap.size ≤ gb134)); have n3_ := Aside0.mk ((by rw [hg]; exact (below_size (by repeat (first | (with_reducible first | exact HB.out | apply below_alloc | apply pw_below_drewN | apply below_drew1) | exact HB.out))) : w.heap.size ≤ gb134)); clear HB; have HB := n0_; have BK134 := n1_; have GW134 := n2_; have GE134 := n3_; clear n0_ n1_ n2_ n3_; clear hb hbox hg))
 go_loopg [10, 11, 16] k (fun kq v10 v11 v16 w' => ∃ (x10_1 : List ByteArray) (x11_1 : List ByteArray) (x16_1 : Int), v16 = .int .i64 x16_1 ∧ Aside0 (wild_sayBoth.l0 kq a1 a2 a3 x10_1 x11_1 l0 (l0.length : Int) x16_1 = some (r1, r2, r3, r4, r5)) ∧ Aside0 (kq ≤ k) ∧ Aside0 (Kd.R Kd.string 9 w' w.heap.size (fun k_ => (w.heap.size ≤ k_) ∧ some k_ ≠ (v11 : Value).ownBlock) v10 x10_1) ∧ Aside0 (Kd.R Kd.string 9 w' w.heap.size (fun k_ => (w.heap.size ≤ k_) ∧ some k_ ≠ (v10 : Value).ownBlock) v11 x11_1) ∧ Aside0 (w'.heap[gb134]? = some (.cells #[.int .i64 0, .string (⟨#[]⟩ : ByteArray), (.slice none 0 0), .int .i64 0] 26 (0, 0))) ∧ Aside0 (Below w.heap.size w w'))
 case atStart => exact ⟨(([] : List ByteArray)), (([] : List ByteArray)), (0), (by first | rfl | (simp; done) | (simp [*]; done)), H', ⟨Nat.le_refl _⟩, ⟨by first | exact Kd.R_nil _ _ _ _ _ | exact Kd.N_nil _ _ _ _ _ | exact Kd.V_nil _ _ _ _ _ | exact Kd.Q_nil _ _ _ _ _ | exact Kd.S_nil _ _ _ _ _⟩, ⟨by first | exact Kd.R_nil _ _ _ _ _ | exact Kd.N_nil _ _ _ _ _ | exact Kd.V_nil _ _ _ _ _ | exact Kd.Q_nil _ _ _ _ _ | exact Kd.S_nil _ _ _ _ _⟩, ⟨S.b BK134.out⟩, ⟨by repeat (first | (with_reducible first | exact HB.out | apply below_alloc | apply pw_below_drewN | apply below_drew1 | refine below_set ?_ GE134.out) | exact HB.out)⟩⟩
 case round =>
  clear H'
  try clear c2
  try clear p2
  obtain ⟨x10_1, x11_1, x16_1, rfl, HA, HK1, HO_10, HO_11, BK134, HB⟩ := hrel
  cases gk with
  | zero => exact absurd HA.out (by simp [wild_sayBoth.l0])
  | succ k1 =>
   have H := HA.out
   clear HA
   simp only [wild_sayBoth.l0] at H
   by_cases c6 : x16_1 < (l0.length : Int)
   ·rw [if_pos c6] at H
    have c6b0 : decide (x16_1 < (l0.length : Int)) = true := decide_eq_true c6
    clear c6
    by_cases c7 : 0 ≤ x16_1
    ·rw [if_pos c7] at H
     have c7b0 : decide (0 ≤ x16_1) = true := decide_eq_true c7
     clear c7
     by_cases c8 : x16_1 < (l0.length : Int)
     ·rw [if_pos c8] at H
      have c8b0 : decide (x16_1 < (l0.length : Int)) = true := decide_eq_true c8
      clear c8
      replace H := Option.bind_eq_some_iff.mp H
      obtain ⟨t136, A90, H⟩ := H
      replace H : (if t136 = true then (if x10_1.length < 8796093022208 then (wild_sayBoth.l0 k1 a1 a2 a3 (x10_1 ++ [rdOf ByteArray.empty l0 x16_1]) x11_1 l0 (l0.length : Int) (wrap64 (x16_1 + 1))) else (none)) else (if x11_1.length < 8796093022208 then (wild_sayBoth.l0 k1 a1 a2 a3 x10_1 (x11_1 ++ [rdOf ByteArray.empty l0 x16_1]) l0 (l0.length : Int) (wrap64 (x16_1 + 1))) else (none))) = some (r1, r2, r3, r4, r5) := H
      have A9 := Aside0.mk A90
      clear A90
      by_cases c10 : t136 = true
      ·subst c10
       have H1 : (if x10_1.length < 8796093022208 then (wild_sayBoth.l0 k1 a1 a2 a3 (x10_1 ++ [rdOf ByteArray.empty l0 x16_1]) x11_1 l0 (l0.length : Int) (wrap64 (x16_1 + 1))) else (none)) = some (r1, r2, r3, r4, r5) := by rw [if_pos rfl] at H; exact H
       clear H
       have H := H1
       clear H1
       by_cases c11 : x10_1.length < 8796093022208
       ·rw [if_pos c11] at H
        have LMc11 := Aside0.mk c11
        clear c11
        obtain ⟨y137, hy137⟩ : ∃ y_ : List ByteArray, y_ = (x10_1 ++ [rdOf ByteArray.empty l0 x16_1]) := ⟨_, rfl⟩
        replace H : (wild_sayBoth.l0 k1 a1 a2 a3 y137 x11_1 l0 (l0.length : Int) (wrap64 (x16_1 + 1))) = some (r1, r2, r3, r4, r5) := by first | (rw [hy137]; with_reducible exact H) | (have H2_ := (Option.bind_some _ _).symm.trans H; rw [hy137]; with_reducible exact H2_) | (have H2_ := (Option.bind_some _ _).symm.trans H; with_reducible exact H2_) | with_reducible exact H | (rw [hy137]; exact H) | exact H
        have Ny137 := Aside0.mk hy137
        clear hy137
        have H' := Aside0.mk H
        clear H
        have p135 : 0 ≤ (x16_1 : Int) := of_decide_eq_true (by first | (with_reducible assumption) | assumption)
        have q135 : x16_1 < (l0.length : Int) := of_decide_eq_true (by first | (with_reducible assumption) | assumption)
        obtain ⟨ad135, e135, hx135_0⟩ := Kd.at_string HR0.out x16_1 p135 q135
        cases e135
        replace hx135_0 := (HB.out.cell (World.block_lt_of_cell? w _ hx135_0)).trans hx135_0
        replace p135 := eq_true p135
        replace q135 := eq_true q135
        go_wp2_with (first | (go_at_call 32; (refine (wild_clBoth.calls k1 gA gB AA AB cA cB a3 (rdOf ByteArray.empty l0 x16_1) true _ ?sideA ?sideB ?sideC HCA.out ?sideD HCB.out A9.out).mono ?_); (case sideA => exact blk_below HGA.out (by repeat (first | (with_reducible first | exact HB.out | apply below_alloc | apply pw_below_drewN | apply below_drew1 | refine below_set ?_ GE134.out) | exact HB.out))); (case sideB => exact blk_below HGB.out (by repeat (first | (with_reducible first | exact HB.out | apply below_alloc | apply pw_below_drewN | apply below_drew1 | refine below_set ?_ GE134.out) | exact HB.out))); (case sideC => exact Kd.C_below HRA.out (by repeat (first | (with_reducible first | exact HB.out | apply below_alloc | apply pw_below_drewN | apply below_drew1 | refine below_set ?_ GE134.out) | exact HB.out))); (case sideD => exact Kd.C_below HRB.out (by repeat (first | (with_reducible first | exact HB.out | apply below_alloc | apply pw_below_drewN | apply below_drew1 | refine below_set ?_ GE134.out) | exact HB.out))); rintro e w12 ⟨rfl, hb⟩; have n0_ := Aside0.mk (Kd.R_below (S.r HO_10.out) hb); have n1_ := Aside0.mk (Kd.R_below (S.r HO_11.out) hb); have n2_ := Aside0.mk (blk_below (g := gb134) (o := .cells #[.int .i64 0, .string (⟨#[]⟩ : ByteArray), .slice none 0 0, .int .i64 0] 26 (0, 0)) (S.b BK134.out) hb); have n3_ := Aside0.mk (below_step (by repeat (first | (with_reducible first | exact HB.out | apply below_alloc | apply pw_below_drewN | apply below_drew1 | refine below_set ?_ GE134.out) | exact HB.out)) hb); clear HO_10; clear HO_11; clear BK134; clear HB; have HO_10 := n0_; have HO_11 := n1_; have BK134 := n2_; have HB := n3_; clear n0_ n1_ n2_ n3_; (try clear hb); (try clear hb2); (try clear hk); (try clear hi)) | ((with_reducible refine gate_builtin (b := .append) (xs := #[.tmp 23, .tmp 25]) rfl ?_); (try (refine gate_guard (by rfl) ?_; dsimp only)); at_builtin; refine Kd.R_append Kd.string (w0 := w) w.heap.size rfl (.tmp 23) (.tmp 25) 24 9 (.string ⟨#[]⟩) 16 rfl Try.underlying24 info9 rfl (by decide) (by omega) u10 x10_1 (rdOf ByteArray.empty l0 x16_1) [.string (rdOf ByteArray.empty l0 x16_1)] (fun k_ => (w.heap.size ≤ k_) ∧ some k_ ≠ (u11 : Value).ownBlock) (fun _ => False) rfl rfl ?aP (fun _ hk => hk.elim) ?aF ?aO ?aB ?aS ?aL ?_; (case aP => exact rfl); (case aB => exact (by repeat (first | (with_reducible first | exact HB.out | apply below_alloc | apply pw_below_drewN | apply below_drew1 | refine below_set ?_ GE134.out) | exact HB.out))); (case aF => exact (fun k_ hk => ⟨(Nat.le_trans (below_size (by repeat (first | (with_reducible first | exact HB.out | apply below_alloc | apply pw_below_drewN | apply below_drew1 | refine below_set ?_ GE134.out) | exact HB.out))) hk), Kd.fresh' (Kd.R_lt (S.r HO_11.out)) k_ hk⟩)); (case aO => exact (S.r HO_10.out)); (case aS => exact (below_size (by repeat (first | (with_reducible first | exact HB.out | apply below_alloc | apply pw_below_drewN | apply below_drew1 | refine below_set ?_ GE134.out) | exact HB.out)))); (case aL => have := LMc11.out; omega); intro v138 w13 ho hb hg hat; rw [← Ny137.out] at ho; have n0_ := Aside0.mk (Kd.R_after (ok := (fun k_ => (w.heap.size ≤ k_))) (S.r HO_11.out) hg hat); have n1_ := Aside0.mk (blk_grown (g := gb134) (o := .cells #[.int .i64 0, .string (⟨#[]⟩ : ByteArray), .slice none 0 0, .int .i64 0] 26 (0, 0)) (S.b BK134.out) hg (Kd.R_ne HO_10.out BK134.out (by decide))); have n2_ := Aside0.mk (hb); have n3_ := Aside0.mk (ho); clear HO_11; clear BK134; clear HB; clear HO_10; have HO_11 := n0_; have BK134 := n1_; have HB := n2_; have HO139 := n3_; clear n0_ n1_ n2_ n3_; clear ho hb hg hat))
        go_roundg k1
        case measure => have := HK1.out; omega
        case rel => exact ⟨(y137), (x11_1), (wrap64 (x16_1 + 1)), (by first | rfl | (simp; done) | (simp [*]; done)), H', ⟨by have := HK1.out; omega⟩, ⟨S.r HO139.out⟩, ⟨S.r HO_11.out⟩, ⟨S.b BK134.out⟩, ⟨by repeat (first | (with_reducible first | exact HB.out | apply below_alloc | apply pw_below_drewN | apply below_drew1 | refine below_set ?_ GE134.out) | exact HB.out)⟩⟩
       ·rw [if_neg c11] at H
        exact absurd H (by simp)
      ·replace c10 := Bool.eq_false_iff.mpr c10
       subst c10
       have H1 : (if x11_1.length < 8796093022208 then (wild_sayBoth.l0 k1 a1 a2 a3 x10_1 (x11_1 ++ [rdOf ByteArray.empty l0 x16_1]) l0 (l0.length : Int) (wrap64 (x16_1 + 1))) else (none)) = some (r1, r2, r3, r4, r5) := by rw [if_neg (show ¬ (false = true) by decide)] at H; exact H
       clear H
       have H := H1
       clear H1
       by_cases c14 : x11_1.length < 8796093022208
       ·rw [if_pos c14] at H
        have LMc14 := Aside0.mk c14
        clear c14
        obtain ⟨y140, hy140⟩ : ∃ y_ : List ByteArray, y_ = (x11_1 ++ [rdOf ByteArray.empty l0 x16_1]) := ⟨_, rfl⟩
        replace H : (wild_sayBoth.l0 k1 a1 a2 a3 x10_1 y140 l0 (l0.length : Int) (wrap64 (x16_1 + 1))) = some (r1, r2, r3, r4, r5) := by first | (rw [hy140]; with_reducible exact H) | (have H2_ := (Option.bind_some _ _).symm.trans H; rw [hy140]; with_reducible exact H2_) | (have H2_ := (Option.bind_some _ _).symm.trans H; with_reducible exact H2_) | with_reducible exact H | (rw [hy140]; exact H) | exact H
        have Ny140 := Aside0.mk hy140
        clear hy140
        have H' := Aside0.mk H
        clear H
        have p135 : 0 ≤ (x16_1 : Int) := of_decide_eq_true (by first | (with_reducible assumption) | assumption)
        have q135 : x16_1 < (l0.length : Int) := of_decide_eq_true (by first | (with_reducible assumption) | assumption)
        obtain ⟨ad135, e135, hx135_0⟩ := Kd.at_string HR0.out x16_1 p135 q135
        cases e135
        replace hx135_0 := (HB.out.cell (World.block_lt_of_cell? w _ hx135_0)).trans hx135_0
        replace p135 := eq_true p135
        replace q135 := eq_true q135
        go_wp2_with (first | (go_at_call 32; (refine (wild_clBoth.calls k1 gA gB AA AB cA cB a3 (rdOf ByteArray.empty l0 x16_1) false _ ?sideA ?sideB ?sideC HCA.out ?sideD HCB.out A9.out).mono ?_); (case sideA => exact blk_below HGA.out (by repeat (first | (with_reducible first | exact HB.out | apply below_alloc | apply pw_below_drewN | apply below_drew1 | refine below_set ?_ GE134.out) | exact HB.out))); (case sideB => exact blk_below HGB.out (by repeat (first | (with_reducible first | exact HB.out | apply below_alloc | apply pw_below_drewN | apply below_drew1 | refine below_set ?_ GE134.out) | exact HB.out))); (case sideC => exact Kd.C_below HRA.out (by repeat (first | (with_reducible first | exact HB.out | apply below_alloc | apply pw_below_drewN | apply below_drew1 | refine below_set ?_ GE134.out) | exact HB.out))); (case sideD => exact Kd.C_below HRB.out (by repeat (first | (with_reducible first | exact HB.out | apply below_alloc | apply pw_below_drewN | apply below_drew1 | refine below_set ?_ GE134.out) | exact HB.out))); rintro e w15 ⟨rfl, hb⟩; have n0_ := Aside0.mk (Kd.R_below (S.r HO_10.out) hb); have n1_ := Aside0.mk (Kd.R_below (S.r HO_11.out) hb); have n2_ := Aside0.mk (blk_below (g := gb134) (o := .cells #[.int .i64 0, .string (⟨#[]⟩ : ByteArray), .slice none 0 0, .int .i64 0] 26 (0, 0)) (S.b BK134.out) hb); have n3_ := Aside0.mk (below_step (by repeat (first | (with_reducible first | exact HB.out | apply below_alloc | apply pw_below_drewN | apply below_drew1 | refine below_set ?_ GE134.out) | exact HB.out)) hb); clear HO_10; clear HO_11; clear BK134; clear HB; have HO_10 := n0_; have HO_11 := n1_; have BK134 := n2_; have HB := n3_; clear n0_ n1_ n2_ n3_; (try clear hb); (try clear hb2); (try clear hk); (try clear hi)) | ((with_reducible refine gate_builtin (b := .append) (xs := #[.tmp 27, .tmp 29]) rfl ?_); (try (refine gate_guard (by rfl) ?_; dsimp only)); at_builtin; refine Kd.R_append Kd.string (w0 := w) w.heap.size rfl (.tmp 27) (.tmp 29) 24 9 (.string ⟨#[]⟩) 16 rfl Try.underlying24 info9 rfl (by decide) (by omega) u11 x11_1 (rdOf ByteArray.empty l0 x16_1) [.string (rdOf ByteArray.empty l0 x16_1)] (fun k_ => (w.heap.size ≤ k_) ∧ some k_ ≠ (u10 : Value).ownBlock) (fun _ => False) rfl rfl ?aP (fun _ hk => hk.elim) ?aF ?aO ?aB ?aS ?aL ?_; (case aP => exact rfl); (case aB => exact (by repeat (first | (with_reducible first | exact HB.out | apply below_alloc | apply pw_below_drewN | apply below_drew1 | refine below_set ?_ GE134.out) | exact HB.out))); (case aF => exact (fun k_ hk => ⟨(Nat.le_trans (below_size (by repeat (first | (with_reducible first | exact HB.out | apply below_alloc | apply pw_below_drewN | apply below_drew1 | refine below_set ?_ GE134.out) | exact HB.out))) hk), Kd.fresh' (Kd.R_lt (S.r HO_10.out)) k_ hk⟩)); (case aO => exact (S.r HO_11.out)); (case aS => exact (below_size (by repeat (first | (with_reducible first | exact HB.out | apply below_alloc | apply pw_below_drewN | apply below_drew1 | refine below_set ?_ GE134.out) | exact HB.out)))); (case aL => have := LMc14.out; omega); intro v141 w16 ho hb hg hat; rw [← Ny140.out] at ho; have n0_ := Aside0.mk (Kd.R_after (ok := (fun k_ => (w.heap.size ≤ k_))) (S.r HO_10.out) hg hat); have n1_ := Aside0.mk (blk_grown (g := gb134) (o := .cells #[.int .i64 0, .string (⟨#[]⟩ : ByteArray), .slice none 0 0, .int .i64 0] 26 (0, 0)) (S.b BK134.out) hg (Kd.R_ne HO_11.out BK134.out (by decide))); have n2_ := Aside0.mk (hb); have n3_ := Aside0.mk (ho); clear HO_10; clear BK134; clear HB; clear HO_11; have HO_10 := n0_; have BK134 := n1_; have HB := n2_; have HO142 := n3_; clear n0_ n1_ n2_ n3_; clear ho hb hg hat))
        go_roundg k1
        case measure => have := HK1.out; omega
        case rel => exact ⟨(x10_1), (y140), (wrap64 (x16_1 + 1)), (by first | rfl | (simp; done) | (simp [*]; done)), H', ⟨by have := HK1.out; omega⟩, ⟨S.r HO_10.out⟩, ⟨S.r HO142.out⟩, ⟨S.b BK134.out⟩, ⟨by repeat (first | (with_reducible first | exact HB.out | apply below_alloc | apply pw_below_drewN | apply below_drew1 | refine below_set ?_ GE134.out) | exact HB.out)⟩⟩
       ·rw [if_neg c14] at H
        exact absurd H (by simp)
     ·rw [if_neg c8] at H
      exact absurd H (by simp)
    ·rw [if_neg c7] at H
     exact absurd H (by simp)
   ·rw [if_neg c6] at H
    have c6b0 : decide (x16_1 < (l0.length : Int)) = false := decide_eq_false c6
    clear c6
    by_cases c17 : a1 = true
    ·subst c17
     have H1 : (if (x11_1.length : Int) = 0 then (some (1, (⟨#[]⟩ : ByteArray), ([] : List ByteArray), a2, true)) else (if 0 < (x11_1.length : Int) then (if (rdOf ByteArray.empty x11_1 0).toList = ([] : List UInt8) then (wild_sayBoth.j1 k1 a2 x11_1 (decide ((x11_1.length : Int) > 2))) else (wild_sayBoth.j1 k1 a2 x11_1 true)) else (none))) = some (r1, r2, r3, r4, r5) := by rw [if_pos rfl] at H; exact H
     clear H
     have H := H1
     clear H1
     by_cases c18 : (x11_1.length : Int) = 0
     ·rw [if_pos c18] at H
      have c18b0 : ((x11_1.length : Int) == 0) = true := beq_iff_eq.mpr c18
      have c18b1 : ((x11_1.length : Int) != 0) = false := bne_eq_false_iff_eq.mpr c18
      clear c18
      simp only [Option.some.injEq, Prod.mk.injEq] at H
      obtain ⟨rfl, rfl, rfl, rfl, rfl⟩ := H
      obtain ⟨Ao19, co19, eo19⟩ := Kd.R_slice HO_11.out
      subst eo19
      have hcz20_0 : wr.cell? ⟨gb134, 0, none⟩ = some (.int .i64 0) := (blk_cell BK134.out 0).trans rfl
      have hcz20_1 : wr.cell? ⟨gb134, 1, none⟩ = some (.string (⟨#[]⟩ : ByteArray)) := (blk_cell BK134.out 1).trans rfl
      have hcz20_2 : wr.cell? ⟨gb134, 2, none⟩ = some (.slice none 0 0) := (blk_cell BK134.out 2).trans rfl
      have hcz20_3 : wr.cell? ⟨gb134, 3, none⟩ = some (.int .i64 0) := (blk_cell BK134.out 3).trans rfl
      have hfz20_0 := blk_frozen BK134.out 0
      have hfz20_1 := blk_frozen BK134.out 1
      have hfz20_2 := blk_frozen BK134.out 2
      have hfz20_3 := blk_frozen BK134.out 3
      go_wp2
      refine bodyPost_ret (results_ct rfl _ _ gb134 26 #[.int .i64 1, .string (⟨#[]⟩ : ByteArray), .slice none 0 0, .int .i64 a2] (0, 0) _ rfl (by (with_reducible repeat (first | refine blk_drewN ?_ _ | refine blk_drew ?_ | refine blk_alloc ?_ _)); refine blk_put (cs := #[.int .i64 1, .string (⟨#[]⟩ : ByteArray), .slice none 0 0, .int .i64 0]) ?_ 3 _ rfl; (with_reducible repeat (first | refine blk_drewN ?_ _ | refine blk_drew ?_ | refine blk_alloc ?_ _)); refine blk_put (cs := #[.int .i64 1, .string (⟨#[]⟩ : ByteArray), .slice none 0 0, .int .i64 0]) ?_ 2 _ rfl; (with_reducible repeat (first | refine blk_drewN ?_ _ | refine blk_drew ?_ | refine blk_alloc ?_ _)); refine blk_put (cs := #[.int .i64 1, .string (⟨#[]⟩ : ByteArray), .slice none 0 0, .int .i64 0]) ?_ 1 _ rfl; (with_reducible repeat (first | refine blk_drewN ?_ _ | refine blk_drew ?_ | refine blk_alloc ?_ _)); refine blk_put (cs := #[.int .i64 0, .string (⟨#[]⟩ : ByteArray), .slice none 0 0, .int .i64 0]) ?_ 0 _ rfl; (with_reducible repeat (first | refine blk_drewN ?_ _ | refine blk_drew ?_ | refine blk_alloc ?_ _)); exact BK134.out) Try.underlying26 rfl (by kernel_rfl)) rfl ?_
      exact ⟨_, by first | rfl | (simp [errW_none, errW_some] <;> rfl) | (simp [*, errW_none, errW_some] <;> rfl), Kd.V_nil _ _ _ _ _, by repeat (first | (with_reducible first | exact HB.out | apply below_alloc | apply pw_below_drewN | apply below_drew1 | refine below_set ?_ GE134.out) | exact HB.out)⟩
     ·rw [if_neg c18] at H
      have c18b0 : ((x11_1.length : Int) == 0) = false := beq_eq_false_iff_ne.mpr c18
      have c18b1 : ((x11_1.length : Int) != 0) = true := bne_iff_ne.mpr c18
      have c18b2 : ¬ (x11_1 = []) := fun h_ => c18 (by rw [h_]; rfl)
      have HC21 := Aside0.mk H
      clear H
      obtain ⟨Ao22, co22, eo22⟩ := Kd.R_slice HO_11.out
      subst eo22
      go_upto_region 13 with (fail)
      go_cut [44] (fun v44 wc => ∃ (kq : Nat) (x44_20 : Bool), v44 = .bool x44_20 ∧ Aside0 (wild_sayBoth.j1 kq a2 x11_1 x44_20 = some (r1, r2, r3, r4, r5)) ∧ Aside0 (kq ≤ k1) ∧ Aside0 (Kd.R Kd.string 9 wc w.heap.size (fun k_ => (w.heap.size ≤ k_)) (.slice Ao22 x11_1.length co22) x11_1) ∧ Aside0 (wc.heap[gb134]? = some (.cells #[.int .i64 0, .string (⟨#[]⟩ : ByteArray), (.slice none 0 0), .int .i64 0] 26 (0, 0))) ∧ Aside0 (Below w.heap.size w wc))
      case first =>
       have H := HC21.out
       clear HC21
       by_cases c23 : 0 < (x11_1.length : Int)
       ·rw [if_pos c23] at H
        have c23b0 : decide (0 < (x11_1.length : Int)) = true := decide_eq_true c23
        have c23b1 : decide (0 < x11_1.length) = true := decide_eq_true (by omega)
        clear c23
        (first | rw [c23b0] | (simp only [i64_w, i32_w]; rw [c23b0]) | skip)
        by_cases c24 : (rdOf ByteArray.empty x11_1 0).toList = ([] : List UInt8)
        ·rw [if_pos c24] at H
         have c24b0 : ((rdOf ByteArray.empty x11_1 0).toList == ([] : List UInt8)) = true := beq_iff_eq.mpr c24
         have c24b1 : ((rdOf ByteArray.empty x11_1 0).toList != ([] : List UInt8)) = false := bne_eq_false_iff_eq.mpr c24
         clear c24
         have H' := Aside0.mk H
         clear H
         have p143 : 0 ≤ (0 : Int) := (by omega)
         have q143 : 0 < (x11_1.length : Int) := of_decide_eq_true (by first | (with_reducible assumption) | assumption)
         obtain ⟨ad143, e143, hx143_0⟩ := Kd.at_string (Kd.R_reads' HO_11.out).2.2 0 p143 q143
         cases e143
         have qi143 : (0 < x11_1.length) = True := eq_true (by omega)
         (try rw [show ((0 : Int)).toNat = 0 from rfl] at hx143_0)
         (try rw [Addr.add_zero'] at hx143_0)
         replace p143 := eq_true p143
         replace q143 := eq_true q143
         go_wp2
         go_meet
         case rel => exact ⟨_, (decide ((x11_1.length : Int) > 2)), (by first | rfl | (simp; done) | (simp [*]; done)), H', ⟨by have := HK1.out; first | omega | exact Nat.le_refl _⟩, ⟨by (with_reducible repeat (first | apply Kd.R_alloc | apply Kd.R_drewN | apply Kd.R_drew)); exact Kd.R_mono HO_11.out (fun _ hk => hk.1)⟩, ⟨S.b BK134.out⟩, ⟨by repeat (first | (with_reducible first | exact HB.out | apply below_alloc | apply pw_below_drewN | apply below_drew1 | refine below_set ?_ GE134.out) | exact HB.out)⟩⟩
        ·rw [if_neg c24] at H
         have c24b0 : ((rdOf ByteArray.empty x11_1 0).toList == ([] : List UInt8)) = false := beq_eq_false_iff_ne.mpr c24
         have c24b1 : ((rdOf ByteArray.empty x11_1 0).toList != ([] : List UInt8)) = true := bne_iff_ne.mpr c24
         have H' := Aside0.mk H
         clear H
         have p143 : 0 ≤ (0 : Int) := (by omega)
         have q143 : 0 < (x11_1.length : Int) := of_decide_eq_true (by first | (with_reducible assumption) | assumption)
         obtain ⟨ad143, e143, hx143_0⟩ := Kd.at_string (Kd.R_reads' HO_11.out).2.2 0 p143 q143
         cases e143
         have qi143 : (0 < x11_1.length) = True := eq_true (by omega)
         (try rw [show ((0 : Int)).toNat = 0 from rfl] at hx143_0)
         (try rw [Addr.add_zero'] at hx143_0)
         replace p143 := eq_true p143
         replace q143 := eq_true q143
         go_wp2
         go_meet
         case rel => exact ⟨_, (true), (by first | rfl | (simp; done) | (simp [*]; done)), H', ⟨by have := HK1.out; first | omega | exact Nat.le_refl _⟩, ⟨by (with_reducible repeat (first | apply Kd.R_alloc | apply Kd.R_drewN | apply Kd.R_drew)); exact Kd.R_mono HO_11.out (fun _ hk => hk.1)⟩, ⟨S.b BK134.out⟩, ⟨by repeat (first | (with_reducible first | exact HB.out | apply below_alloc | apply pw_below_drewN | apply below_drew1 | refine below_set ?_ GE134.out) | exact HB.out)⟩⟩
       ·rw [if_neg c23] at H
        exact absurd H (by simp)
      case rest =>
       clear HC21
       try clear c1
       try clear p1
       try clear q1
       try clear hx1
       try clear qi1
       try clear c2
       try clear p2
       try clear c3
       try clear c6
       try clear c6b0
       try clear p6
       try clear c7
       try clear c7b0
       try clear c8
       try clear c8b0
       try clear c10
       try clear c11
       try clear p13
       try clear q13
       try clear hx13
       try clear c14
       try clear p14
       try clear q14
       try clear hx14
       try clear qi14
       try clear c17
       try clear c18
       try clear c18b0
       try clear c18b1
       try clear c18b2
       try clear c23
       try clear c23b0
       try clear c23b1
       try clear c24
       try clear c24b0
       try clear c24b1
       try clear hcz20_0
       try clear hcz20_1
       try clear hcz20_2
       try clear hcz20_3
       try clear hfz20_0
       try clear hfz20_1
       try clear hfz20_2
       try clear hfz20_3
       try clear hx135_0
       try clear hx143_0
       try clear p135
       try clear p143
       try clear p2
       try clear q135
       try clear q143
       obtain ⟨kq, x44_20, rfl, HA, HJ20, HO_11, BK134, HB⟩ := hcut
       cases kq with
       | zero => exact absurd HA.out (by simp [wild_sayBoth.j1])
       | succ kj20 =>
        have H := HA.out
        clear HA
        simp only [wild_sayBoth.j1] at H
        by_cases c25 : x44_20 = true
        ·subst c25
         have H1 : (some (0, (⟨#[]⟩ : ByteArray), ([] : List ByteArray), 0, false)) = some (r1, r2, r3, r4, r5) := by rw [if_pos rfl] at H; exact H
         clear H
         have H := H1
         clear H1
         simp only [Option.some.injEq, Prod.mk.injEq] at H
         obtain ⟨rfl, rfl, rfl, rfl, rfl⟩ := H
         have hcz26_0 : wc.cell? ⟨gb134, 0, none⟩ = some (.int .i64 0) := (blk_cell BK134.out 0).trans rfl
         have hcz26_1 : wc.cell? ⟨gb134, 1, none⟩ = some (.string (⟨#[]⟩ : ByteArray)) := (blk_cell BK134.out 1).trans rfl
         have hcz26_2 : wc.cell? ⟨gb134, 2, none⟩ = some (.slice none 0 0) := (blk_cell BK134.out 2).trans rfl
         have hcz26_3 : wc.cell? ⟨gb134, 3, none⟩ = some (.int .i64 0) := (blk_cell BK134.out 3).trans rfl
         have hfz26_0 := blk_frozen BK134.out 0
         have hfz26_1 := blk_frozen BK134.out 1
         have hfz26_2 := blk_frozen BK134.out 2
         have hfz26_3 := blk_frozen BK134.out 3
         go_wp2
         refine bodyPost_ret (results_ct rfl _ _ gb134 26 #[.int .i64 0, .string (⟨#[]⟩ : ByteArray), .slice none 0 0, .int .i64 0] (0, 0) _ rfl (by (with_reducible repeat (first | refine blk_drewN ?_ _ | refine blk_drew ?_ | refine blk_alloc ?_ _)); refine blk_put (cs := #[.int .i64 0, .string (⟨#[]⟩ : ByteArray), .slice none 0 0, .int .i64 0]) ?_ 3 _ rfl; (with_reducible repeat (first | refine blk_drewN ?_ _ | refine blk_drew ?_ | refine blk_alloc ?_ _)); refine blk_put (cs := #[.int .i64 0, .string (⟨#[]⟩ : ByteArray), .slice none 0 0, .int .i64 0]) ?_ 2 _ rfl; (with_reducible repeat (first | refine blk_drewN ?_ _ | refine blk_drew ?_ | refine blk_alloc ?_ _)); refine blk_put (cs := #[.int .i64 0, .string (⟨#[]⟩ : ByteArray), .slice none 0 0, .int .i64 0]) ?_ 1 _ rfl; (with_reducible repeat (first | refine blk_drewN ?_ _ | refine blk_drew ?_ | refine blk_alloc ?_ _)); refine blk_put (cs := #[.int .i64 0, .string (⟨#[]⟩ : ByteArray), .slice none 0 0, .int .i64 0]) ?_ 0 _ rfl; (with_reducible repeat (first | refine blk_drewN ?_ _ | refine blk_drew ?_ | refine blk_alloc ?_ _)); exact BK134.out) Try.underlying26 rfl (by kernel_rfl)) rfl ?_
         exact ⟨_, by first | rfl | (simp [errW_none, errW_some] <;> rfl) | (simp [*, errW_none, errW_some] <;> rfl), Kd.V_nil _ _ _ _ _, by repeat (first | (with_reducible first | exact HB.out | apply below_alloc | apply pw_below_drewN | apply below_drew1 | refine below_set ?_ GE134.out) | exact HB.out)⟩
        ·replace c25 := Bool.eq_false_iff.mpr c25
         subst c25
         have H1 : (if (x11_1.length : Int) = 2 then (if 1 < (x11_1.length : Int) then (some (2, rdOf ByteArray.empty x11_1 1, ([] : List ByteArray), a2, true)) else (none)) else (some (2, (⟨#[]⟩ : ByteArray), ([] : List ByteArray), a2, true))) = some (r1, r2, r3, r4, r5) := by rw [if_neg (show ¬ (false = true) by decide)] at H; exact H
         clear H
         have H := H1
         clear H1
         by_cases c27 : (x11_1.length : Int) = 2
         ·rw [if_pos c27] at H
          have c27b0 : ((x11_1.length : Int) == 2) = true := beq_iff_eq.mpr c27
          have c27b1 : ((x11_1.length : Int) != 2) = false := bne_eq_false_iff_eq.mpr c27
          clear c27
          by_cases c28 : 1 < (x11_1.length : Int)
          ·rw [if_pos c28] at H
           have c28b0 : decide (1 < (x11_1.length : Int)) = true := decide_eq_true c28
           have c28b1 : decide (1 < x11_1.length) = true := decide_eq_true (by omega)
           clear c28
           simp only [Option.some.injEq, Prod.mk.injEq] at H
           obtain ⟨rfl, rfl, rfl, rfl, rfl⟩ := H
           have p144 : 0 ≤ (1 : Int) := (by omega)
           have q144 : 1 < (x11_1.length : Int) := of_decide_eq_true (by first | (with_reducible assumption) | assumption)
           obtain ⟨ad144, e144, hx144_0⟩ := Kd.at_string (Kd.R_reads' HO_11.out).2.2 1 p144 q144
           cases e144
           (try simp only [show (1 : Int).toNat = 1 from rfl, Nat.reduceMul, Nat.reduceEqDiff, Go.Addr.add, ↓reduceIte] at hx144_0)
           have qi144 : (1 < x11_1.length) = True := eq_true (by omega)
           (try rw [show ((1 : Int)).toNat = 1 from rfl] at hx144_0)
           replace p144 := eq_true p144
           replace q144 := eq_true q144
           have hcz29_0 : wc.cell? ⟨gb134, 0, none⟩ = some (.int .i64 0) := (blk_cell BK134.out 0).trans rfl
           have hcz29_1 : wc.cell? ⟨gb134, 1, none⟩ = some (.string (⟨#[]⟩ : ByteArray)) := (blk_cell BK134.out 1).trans rfl
           have hcz29_2 : wc.cell? ⟨gb134, 2, none⟩ = some (.slice none 0 0) := (blk_cell BK134.out 2).trans rfl
           have hcz29_3 : wc.cell? ⟨gb134, 3, none⟩ = some (.int .i64 0) := (blk_cell BK134.out 3).trans rfl
           have hfz29_0 := blk_frozen BK134.out 0
           have hfz29_1 := blk_frozen BK134.out 1
           have hfz29_2 := blk_frozen BK134.out 2
           have hfz29_3 := blk_frozen BK134.out 3
           go_wp2
           refine bodyPost_ret (results_ct rfl _ _ gb134 26 #[.int .i64 2, .string (rdOf ByteArray.empty x11_1 1), .slice none 0 0, .int .i64 a2] (0, 0) _ rfl (by (with_reducible repeat (first | refine blk_drewN ?_ _ | refine blk_drew ?_ | refine blk_alloc ?_ _)); refine blk_put (cs := #[.int .i64 2, .string (rdOf ByteArray.empty x11_1 1), .slice none 0 0, .int .i64 0]) ?_ 3 _ rfl; (with_reducible repeat (first | refine blk_drewN ?_ _ | refine blk_drew ?_ | refine blk_alloc ?_ _)); refine blk_put (cs := #[.int .i64 2, .string (rdOf ByteArray.empty x11_1 1), .slice none 0 0, .int .i64 0]) ?_ 2 _ rfl; (with_reducible repeat (first | refine blk_drewN ?_ _ | refine blk_drew ?_ | refine blk_alloc ?_ _)); refine blk_put (cs := #[.int .i64 2, .string (⟨#[]⟩ : ByteArray), .slice none 0 0, .int .i64 0]) ?_ 1 _ rfl; (with_reducible repeat (first | refine blk_drewN ?_ _ | refine blk_drew ?_ | refine blk_alloc ?_ _)); refine blk_put (cs := #[.int .i64 0, .string (⟨#[]⟩ : ByteArray), .slice none 0 0, .int .i64 0]) ?_ 0 _ rfl; (with_reducible repeat (first | refine blk_drewN ?_ _ | refine blk_drew ?_ | refine blk_alloc ?_ _)); exact BK134.out) Try.underlying26 rfl (by kernel_rfl)) rfl ?_
           exact ⟨_, by first | rfl | (simp [errW_none, errW_some] <;> rfl) | (simp [*, errW_none, errW_some] <;> rfl), Kd.V_nil _ _ _ _ _, by repeat (first | (with_reducible first | exact HB.out | apply below_alloc | apply pw_below_drewN | apply below_drew1 | refine below_set ?_ GE134.out) | exact HB.out)⟩
          ·rw [if_neg c28] at H
           exact absurd H (by simp)
         ·rw [if_neg c27] at H
          have c27b0 : ((x11_1.length : Int) == 2) = false := beq_eq_false_iff_ne.mpr c27
          have c27b1 : ((x11_1.length : Int) != 2) = true := bne_iff_ne.mpr c27
          simp only [Option.some.injEq, Prod.mk.injEq] at H
          obtain ⟨rfl, rfl, rfl, rfl, rfl⟩ := H
          have hcz30_0 : wc.cell? ⟨gb134, 0, none⟩ = some (.int .i64 0) := (blk_cell BK134.out 0).trans rfl
          have hcz30_1 : wc.cell? ⟨gb134, 1, none⟩ = some (.string (⟨#[]⟩ : ByteArray)) := (blk_cell BK134.out 1).trans rfl
          have hcz30_2 : wc.cell? ⟨gb134, 2, none⟩ = some (.slice none 0 0) := (blk_cell BK134.out 2).trans rfl
          have hcz30_3 : wc.cell? ⟨gb134, 3, none⟩ = some (.int .i64 0) := (blk_cell BK134.out 3).trans rfl
          have hfz30_0 := blk_frozen BK134.out 0
          have hfz30_1 := blk_frozen BK134.out 1
          have hfz30_2 := blk_frozen BK134.out 2
          have hfz30_3 := blk_frozen BK134.out 3
          go_wp2
          refine bodyPost_ret (results_ct rfl _ _ gb134 26 #[.int .i64 2, .string (⟨#[]⟩ : ByteArray), .slice none 0 0, .int .i64 a2] (0, 0) _ rfl (by (with_reducible repeat (first | refine blk_drewN ?_ _ | refine blk_drew ?_ | refine blk_alloc ?_ _)); refine blk_put (cs := #[.int .i64 2, .string (⟨#[]⟩ : ByteArray), .slice none 0 0, .int .i64 0]) ?_ 3 _ rfl; (with_reducible repeat (first | refine blk_drewN ?_ _ | refine blk_drew ?_ | refine blk_alloc ?_ _)); refine blk_put (cs := #[.int .i64 2, .string (⟨#[]⟩ : ByteArray), .slice none 0 0, .int .i64 0]) ?_ 2 _ rfl; (with_reducible repeat (first | refine blk_drewN ?_ _ | refine blk_drew ?_ | refine blk_alloc ?_ _)); refine blk_put (cs := #[.int .i64 2, .string (⟨#[]⟩ : ByteArray), .slice none 0 0, .int .i64 0]) ?_ 1 _ rfl; (with_reducible repeat (first | refine blk_drewN ?_ _ | refine blk_drew ?_ | refine blk_alloc ?_ _)); refine blk_put (cs := #[.int .i64 0, .string (⟨#[]⟩ : ByteArray), .slice none 0 0, .int .i64 0]) ?_ 0 _ rfl; (with_reducible repeat (first | refine blk_drewN ?_ _ | refine blk_drew ?_ | refine blk_alloc ?_ _)); exact BK134.out) Try.underlying26 rfl (by kernel_rfl)) rfl ?_
          exact ⟨_, by first | rfl | (simp [errW_none, errW_some] <;> rfl) | (simp [*, errW_none, errW_some] <;> rfl), Kd.V_nil _ _ _ _ _, by repeat (first | (with_reducible first | exact HB.out | apply below_alloc | apply pw_below_drewN | apply below_drew1 | refine below_set ?_ GE134.out) | exact HB.out)⟩
    ·replace c17 := Bool.eq_false_iff.mpr c17
     subst c17
     have H1 : ((G.wild_these.f x10_1 a2).bind fun bt145 => (some (bt145.1, bt145.2.1, bt145.2.2.1, bt145.2.2.2, true))) = some (r1, r2, r3, r4, r5) := by rw [if_neg (show ¬ (false = true) by decide)] at H; exact H
     clear H
     have H := H1
     clear H1
     replace H := Option.bind_eq_some_iff.mp H
     obtain ⟨⟨t145, t146, t147, t150⟩, A310, H⟩ := H
     replace H : (some (t145, t146, t147, t150, true)) = some (r1, r2, r3, r4, r5) := H
     have A31 := Aside0.mk A310
     clear A310
     simp only [Option.some.injEq, Prod.mk.injEq] at H
     obtain ⟨rfl, rfl, rfl, rfl, rfl⟩ := H
     obtain ⟨Ao32, co32, eo32⟩ := Kd.R_slice HO_10.out
     subst eo32
     go_wp2_with (first | ((with_reducible refine gate_callee (f := 25) rfl ?_); refine goesL_ (some 37) rfl rfl Try.func25 (by kernel_rfl) rfl #[.slice Ao32 x10_1.length co32, .int .i64 a2] rfl (by (try simp only [List.map_toArray, List.map_cons, List.map_nil]); first | done | rfl | (simp only [List.length_drop, List.length_take]; rfl)) ?_; (with_reducible refine (G.wild_these.calls _ _ x10_1 a2 t145 t146 t147 t150 _ ?side1 ?side2 A31.out).mono ?_); (case side1 => repeat (first | exact (Kd.R_reads' HO_10.out).2.2 | (with_reducible refine Kd.C_alloc ?_ _) | (with_reducible refine Kd.C_drewN ?_ _) | (with_reducible refine Kd.C_drew ?_))); (case side2 => exact (Kd.R_reads' HO_10.out).2.1); rintro e w33 ⟨v148, rfl, ho0, hb⟩; refine ⟨_, rfl, ?_⟩; have n0_ := Aside0.mk (Kd.R_below (S.r HO_10.out) hb); have n1_ := Aside0.mk (Kd.R_below (S.r HO_11.out) hb); have n2_ := Aside0.mk (Kd.V_lower (Kd.V_mono (ok' := fun k_ => (w.heap.size ≤ k_) ∧ some k_ ≠ (.slice Ao32 x10_1.length co32 : Value).ownBlock ∧ some k_ ≠ (u11 : Value).ownBlock ∧ k_ ≠ gb134) ho0 (fun k_ hk_ => ⟨(Nat.le_trans (below_size (by repeat (first | (with_reducible first | exact HB.out | apply below_alloc | apply pw_below_drewN | apply below_drew1 | refine below_set ?_ GE134.out) | exact HB.out))) hk_), (Kd.fresh' (Kd.R_lt (S.r HO_10.out)) k_ hk_), (Kd.fresh' (Kd.R_lt (S.r HO_11.out)) k_ hk_), (Kd.freshB (g := gb134) (o := .cells #[.int .i64 0, .string (⟨#[]⟩ : ByteArray), .slice none 0 0, .int .i64 0] 26 (0, 0)) (S.b BK134.out) k_ hk_)⟩)) (below_size (by repeat (first | (with_reducible first | exact HB.out | apply below_alloc | apply pw_below_drewN | apply below_drew1 | refine below_set ?_ GE134.out) | exact HB.out)))); have n3_ := Aside0.mk (blk_below (g := gb134) (o := .cells #[.int .i64 0, .string (⟨#[]⟩ : ByteArray), .slice none 0 0, .int .i64 0] 26 (0, 0)) (S.b BK134.out) hb); have n4_ := Aside0.mk (below_step (by repeat (first | (with_reducible first | exact HB.out | apply below_alloc | apply pw_below_drewN | apply below_drew1 | refine below_set ?_ GE134.out) | exact HB.out)) hb); clear HO_10; clear HO_11; clear BK134; clear HB; have HO_10 := n0_; have HO_11 := n1_; have HO149 := n2_; have BK134 := n3_; have HB := n4_; clear n0_ n1_ n2_ n3_ n4_; (try clear hb); (try clear hb2); (try clear hk); (try clear hi); (try clear ho0); have hcz34_0 : w33.cell? ⟨gb134, 0, none⟩ = some (.int .i64 0) := (blk_cell BK134.out 0).trans rfl; have hcz34_1 : w33.cell? ⟨gb134, 1, none⟩ = some (.string (⟨#[]⟩ : ByteArray)) := (blk_cell BK134.out 1).trans rfl; have hcz34_2 : w33.cell? ⟨gb134, 2, none⟩ = some (.slice none 0 0) := (blk_cell BK134.out 2).trans rfl; have hcz34_3 : w33.cell? ⟨gb134, 3, none⟩ = some (.int .i64 0) := (blk_cell BK134.out 3).trans rfl; have hfz34_0 := blk_frozen BK134.out 0; have hfz34_1 := blk_frozen BK134.out 1; have hfz34_2 := blk_frozen BK134.out 2; have hfz34_3 := blk_frozen BK134.out 3; obtain ⟨Ao35, co35, eo35⟩ := Kd.V_slice HO149.out; subst eo35))
     refine bodyPost_ret (results_ct rfl _ _ gb134 26 #[.int .i64 t145, .string t146, .slice Ao35 t147.length co35, .int .i64 t150] (0, 0) _ rfl (by (with_reducible repeat (first | refine blk_drewN ?_ _ | refine blk_drew ?_ | refine blk_alloc ?_ _)); refine blk_put (cs := #[.int .i64 t145, .string t146, .slice Ao35 t147.length co35, .int .i64 0]) ?_ 3 _ rfl; (with_reducible repeat (first | refine blk_drewN ?_ _ | refine blk_drew ?_ | refine blk_alloc ?_ _)); refine blk_put (cs := #[.int .i64 t145, .string t146, .slice none 0 0, .int .i64 0]) ?_ 2 _ rfl; (with_reducible repeat (first | refine blk_drewN ?_ _ | refine blk_drew ?_ | refine blk_alloc ?_ _)); refine blk_put (cs := #[.int .i64 t145, .string (⟨#[]⟩ : ByteArray), .slice none 0 0, .int .i64 0]) ?_ 1 _ rfl; (with_reducible repeat (first | refine blk_drewN ?_ _ | refine blk_drew ?_ | refine blk_alloc ?_ _)); refine blk_put (cs := #[.int .i64 0, .string (⟨#[]⟩ : ByteArray), .slice none 0 0, .int .i64 0]) ?_ 0 _ rfl; (with_reducible repeat (first | refine blk_drewN ?_ _ | refine blk_drew ?_ | refine blk_alloc ?_ _)); exact BK134.out) Try.underlying26 rfl (by kernel_rfl)) rfl ?_
     exact ⟨_, by first | rfl | (simp [errW_none, errW_some] <;> rfl) | (simp [*, errW_none, errW_some] <;> rfl), by (with_reducible repeat (first | apply Kd.V_alloc | apply Kd.V_drewN | apply Kd.V_drew)); exact Kd.V_mono (Kd.V_far (p := ⟨gb134, 3, none⟩) (Kd.V_far (p := ⟨gb134, 2, none⟩) (Kd.V_far (p := ⟨gb134, 1, none⟩) (Kd.V_far (p := ⟨gb134, 0, none⟩) (Kd.V_mono HO149.out (fun k_ hk => (⟨hk, hk.2.2.2⟩ : _ ∧ k_ ≠ gb134))) (fun _ hk => hk.2) (.int .i64 t145)) (fun _ hk => hk.2) (.string t146)) (fun _ hk => hk.2) (.slice Ao35 t147.length co35)) (fun _ hk => hk.2) (.int .i64 t150)) (fun _ hk => hk.1.1), by repeat (first | (with_reducible first | exact HB.out | apply below_alloc | apply pw_below_drewN | apply below_drew1 | refine below_set ?_ GE134.out) | exact HB.out)⟩

-- given: function 38 (slices_Sort_string_string): its contract is G.slices_Sort_str.calls, proved by hand
-- given: function 40 (slices_Compact_string_string): its contract is G.slices_Compact_str.calls, proved by hand

/-! ### wild_sayUnion: function 26 -/
mutual
def wild_sayUnion.l0 : Nat → Bool → Int → (S26 × S26) → List ByteArray → List ByteArray → List ByteArray → Int → Int → Option (Int × ByteArray × List ByteArray × Int × Bool)
 | 0, _, _, _, _, _, _, _, _ => none
 | k + 1, x1, x2, x3, x10, x11, x14, x15, x16 => if x16 < x15 then (if 0 ≤ x16 then (if x16 < (x14.length : Int) then ((wild_clUnion.f k x3 (rdOf ByteArray.empty x14 x16)).bind fun t136 => (if t136 = true then (if x10.length < 8796093022208 then (wild_sayUnion.l0 k x1 x2 x3 (x10 ++ [rdOf ByteArray.empty x14 x16]) x11 x14 x15 (wrap64 (x16 + 1))) else (none)) else (if x11.length < 8796093022208 then (wild_sayUnion.l0 k x1 x2 x3 x10 (x11 ++ [rdOf ByteArray.empty x14 x16]) x14 x15 (wrap64 (x16 + 1))) else (none)))) else (none)) else (none)) else (if x1 = true then (if (x11.length : Int) = 0 then (some (1, (⟨#[]⟩ : ByteArray), ([] : List ByteArray), x2, true)) else (if 0 < (x11.length : Int) then (if (rdOf ByteArray.empty x11 0).toList = ([] : List UInt8) then (wild_sayUnion.j1 k x2 x11 (decide ((x11.length : Int) > 2))) else (wild_sayUnion.j1 k x2 x11 true)) else (none))) else ((G.wild_these.f x10 x2).bind fun bt145 => (some (bt145.1, bt145.2.1, bt145.2.2.1, bt145.2.2.2, true))))
def wild_sayUnion.j1 : Nat → Int → List ByteArray → Bool → Option (Int × ByteArray × List ByteArray × Int × Bool)
 | 0, _, _, _ => none
 | k + 1, x2, x11, x44 => if x44 = true then (some (0, (⟨#[]⟩ : ByteArray), ([] : List ByteArray), 0, false)) else (if (x11.length : Int) = 2 then (if 1 < (x11.length : Int) then (some (2, rdOf ByteArray.empty x11 1, ([] : List ByteArray), x2, true)) else (none)) else (some (2, (⟨#[]⟩ : ByteArray), ([] : List ByteArray), x2, true)))
end
def wild_sayUnion.f (k : Nat) (l0 : List ByteArray) (a1 : Bool) (a2 : Int) (a3 : S26 × S26) : Option (Int × ByteArray × List ByteArray × Int × Bool) := wild_sayUnion.l0 k a1 a2 a3 ([] : List ByteArray) ([] : List ByteArray) l0 (l0.length : Int) 0
theorem wild_sayUnion.mono_l : ∀ k, (∀ y0 y1 y2 y3 y4 y5 y6 y7, LeO (wild_sayUnion.l0 k y0 y1 y2 y3 y4 y5 y6 y7) (wild_sayUnion.l0 (k + 1) y0 y1 y2 y3 y4 y5 y6 y7)) ∧ (∀ y0 y1 y2, LeO (wild_sayUnion.j1 k y0 y1 y2) (wild_sayUnion.j1 (k + 1) y0 y1 y2))
 | 0 => ⟨fun _ _ _ _ _ _ _ _ r h => by simp [wild_sayUnion.l0] at h, fun _ _ _ r h => by simp [wild_sayUnion.j1] at h⟩
 | k + 1 => by
  obtain ⟨ih0, ih1⟩ := wild_sayUnion.mono_l k
  refine ⟨?_, ?_⟩
  ·intro y0 y1 y2 y3 y4 y5 y6 y7
   unfold wild_sayUnion.l0
   repeat' first
   | (with_reducible exact ih0 _ _ _ _ _ _ _ _)
   | (with_reducible exact ih1 _ _ _)
   | (with_reducible exact wild_clUnion.mono _ _ _)
   | (with_reducible exact LeO.refl _)
   | (with_reducible exact LeO.none _)
   | (with_reducible refine LeO.ite ?_ ?_)
   | (with_reducible refine LeO.bind ?_ (fun _ => ?_))
   | exact ih0 _ _ _ _ _ _ _ _
   | exact ih1 _ _ _
   | exact wild_clUnion.mono _ _ _
   | exact LeO.none _
   | refine LeO.ite ?_ ?_
   | refine LeO.bind ?_ (fun _ => ?_)
  ·intro y0 y1 y2
   unfold wild_sayUnion.j1
   repeat' first
   | (with_reducible exact ih0 _ _ _ _ _ _ _ _)
   | (with_reducible exact ih1 _ _ _)
   | (with_reducible exact wild_clUnion.mono _ _ _)
   | (with_reducible exact LeO.refl _)
   | (with_reducible exact LeO.none _)
   | (with_reducible refine LeO.ite ?_ ?_)
   | (with_reducible refine LeO.bind ?_ (fun _ => ?_))
   | exact ih0 _ _ _ _ _ _ _ _
   | exact ih1 _ _ _
   | exact wild_clUnion.mono _ _ _
   | exact LeO.none _
   | refine LeO.ite ?_ ?_
   | refine LeO.bind ?_ (fun _ => ?_)
theorem wild_sayUnion.mono : ∀ a0 a1 a2 a3 k, LeO (wild_sayUnion.f k a0 a1 a2 a3) (wild_sayUnion.f (k + 1) a0 a1 a2 a3) := by
 intro a0 a1 a2 a3 k
 obtain ⟨ih0, ih1⟩ := wild_sayUnion.mono_l k
 unfold wild_sayUnion.f
 repeat' first
   | (with_reducible exact ih0 _ _ _ _ _ _ _ _)
   | (with_reducible exact ih1 _ _ _)
   | (with_reducible exact wild_clUnion.mono _ _ _)
   | (with_reducible exact LeO.refl _)
   | (with_reducible exact LeO.none _)
   | (with_reducible refine LeO.ite ?_ ?_)
   | (with_reducible refine LeO.bind ?_ (fun _ => ?_))
   | exact ih0 _ _ _ _ _ _ _ _
   | exact ih1 _ _ _
   | exact wild_clUnion.mono _ _ _
   | exact LeO.none _
   | refine LeO.ite ?_ ?_
   | refine LeO.bind ?_ (fun _ => ?_)
set_option maxHeartbeats 8000000 in
set_option maxRecDepth 100000 in
theorem wild_sayUnion.calls (k : Nat) (A0 : Option Addr) (c0 : Nat) (l0 : List ByteArray) (a1 : Bool) (a2 : Int) (a3 : S26 × S26) (r1 : Int) (r2 : ByteArray) (r3 : List ByteArray) (r4 : Int) (r5 : Bool) (w : World) (gA gB : Nat) (AA AB : Option Addr) (cA cB : Nat) (hgA : w.heap[gA]? = some (boxed a3.1 AA cA)) (hgB : w.heap[gB]? = some (boxed a3.2 AB cB)) (hrA : Kd.C Kd.string w AA a3.1.f2.length a3.1.f2) (hcA : a3.1.f2.length ≤ cA) (hrB : Kd.C Kd.string w AB a3.2.f2.length a3.2.f2) (hcB : a3.2.f2.length ≤ cB) (hr0 : Kd.C Kd.string w A0 l0.length l0) (hc0 : l0.length ≤ c0) (h : wild_sayUnion.f k l0 a1 a2 a3 = some (r1, r2, r3, r4, r5)) :
  Calls Try.prog 26 #[.slice A0 l0.length c0, .bool a1, .int .i64 a2, .func (.func 29) #[] #[.pointer (some ⟨gA, 0, none⟩), .pointer (some ⟨gB, 0, none⟩)]] w fun e w' => ∃ v2_ : Value, e = .returned (.tuple #[.agg #[.int .i64 r1, .string r2, v2_, .int .i64 r4], .bool r5]) ∧ Kd.V Kd.string 9 w' w.heap.size (fun k_ => (w.heap.size ≤ k_)) v2_ r3 ∧ Below w.heap.size w w' := by
 have HGA := Aside0.mk hgA
 have HGB := Aside0.mk hgB
 have HRA := Aside0.mk hrA
 have HRB := Aside0.mk hrB
 have HCA := Aside0.mk hcA
 have HCB := Aside0.mk hcB
 clear hgA hgB hrA hrB hcA hcB
 have hu26 := Try.underlying26
 have HR0 := Aside0.mk hr0
 have HC0 := Aside0.mk hc0
 clear hr0 hc0
 have HB := Aside0.mk (Below.refl w.heap.size w)
 have H : (wild_sayUnion.l0 k a1 a2 a3 ([] : List ByteArray) ([] : List ByteArray) l0 (l0.length : Int) 0) = some (r1, r2, r3, r4, r5) := h
 clear h
 have H' := Aside0.mk H
 clear H
 go_enter Try.func26, Try.ntmps26
 go_wp2_with (first | ((with_reducible refine gate_dst (N := 8) rfl ?_); (try (refine gate_guard (by rfl) ?_; dsimp only)); refine box_event ?hg (N := 8) ?hd (cs := #[.int .i64 0, .string (⟨#[]⟩ : ByteArray), .slice none 0 0, .int .i64 0]) (t := 26) ?hr ?_; (case hd => rfl); (case hg => rfl); (case hr => first | (go_simp; done) | (go_simp; rfl)); intro gb134 hg w5 hbox hb; have n0_ := Aside0.mk (below_step (by repeat (first | (with_reducible first | exact HB.out | apply below_alloc | apply pw_below_drewN | apply below_drew1) | exact HB.out)) hb); have n1_ := Aside0.mk (hbox); have n2_ := Aside0.mk ((by rw [hg]; exact (below_size (by repeat (first | (with_reducible first | exact HB.out | apply below_alloc | apply pw_below_drewN | apply below_drew1) | exact HB.out))) : w.heap.size ≤ gb134)); have n3_ := Aside0.mk ((by rw [hg]; exact (below_size (by repeat (first | (with_reducible first | exact HB.out | apply below_alloc | apply pw_below_drewN | apply below_drew1) | exact HB.out))) : w.heap.size ≤ gb134)); clear HB; have HB := n0_; have BK134 := n1_; have GW134 := n2_; have GE134 := n3_; clear n0_ n1_ n2_ n3_; clear hb hbox hg))
 go_loopg [10, 11, 16] k (fun kq v10 v11 v16 w' => ∃ (x10_1 : List ByteArray) (x11_1 : List ByteArray) (x16_1 : Int), v16 = .int .i64 x16_1 ∧ Aside0 (wild_sayUnion.l0 kq a1 a2 a3 x10_1 x11_1 l0 (l0.length : Int) x16_1 = some (r1, r2, r3, r4, r5)) ∧ Aside0 (kq ≤ k) ∧ Aside0 (Kd.R Kd.string 9 w' w.heap.size (fun k_ => (w.heap.size ≤ k_) ∧ some k_ ≠ (v11 : Value).ownBlock) v10 x10_1) ∧ Aside0 (Kd.R Kd.string 9 w' w.heap.size (fun k_ => (w.heap.size ≤ k_) ∧ some k_ ≠ (v10 : Value).ownBlock) v11 x11_1) ∧ Aside0 (w'.heap[gb134]? = some (.cells #[.int .i64 0, .string (⟨#[]⟩ : ByteArray), (.slice none 0 0), .int .i64 0] 26 (0, 0))) ∧ Aside0 (Below w.heap.size w w'))
 case atStart => exact ⟨(([] : List ByteArray)), (([] : List ByteArray)), (0), (by first | rfl | (simp; done) | (simp [*]; done)), H', ⟨Nat.le_refl _⟩, ⟨by first | exact Kd.R_nil _ _ _ _ _ | exact Kd.N_nil _ _ _ _ _ | exact Kd.V_nil _ _ _ _ _ | exact Kd.Q_nil _ _ _ _ _ | exact Kd.S_nil _ _ _ _ _⟩, ⟨by first | exact Kd.R_nil _ _ _ _ _ | exact Kd.N_nil _ _ _ _ _ | exact Kd.V_nil _ _ _ _ _ | exact Kd.Q_nil _ _ _ _ _ | exact Kd.S_nil _ _ _ _ _⟩, ⟨S.b BK134.out⟩, ⟨by repeat (first | (with_reducible first | exact HB.out | apply below_alloc | apply pw_below_drewN | apply below_drew1 | refine below_set ?_ GE134.out) | exact HB.out)⟩⟩
 case round =>
  clear H'
  try clear c2
  try clear p2
  obtain ⟨x10_1, x11_1, x16_1, rfl, HA, HK1, HO_10, HO_11, BK134, HB⟩ := hrel
  cases gk with
  | zero => exact absurd HA.out (by simp [wild_sayUnion.l0])
  | succ k1 =>
   have H := HA.out
   clear HA
   simp only [wild_sayUnion.l0] at H
   by_cases c6 : x16_1 < (l0.length : Int)
   ·rw [if_pos c6] at H
    have c6b0 : decide (x16_1 < (l0.length : Int)) = true := decide_eq_true c6
    clear c6
    by_cases c7 : 0 ≤ x16_1
    ·rw [if_pos c7] at H
     have c7b0 : decide (0 ≤ x16_1) = true := decide_eq_true c7
     clear c7
     by_cases c8 : x16_1 < (l0.length : Int)
     ·rw [if_pos c8] at H
      have c8b0 : decide (x16_1 < (l0.length : Int)) = true := decide_eq_true c8
      clear c8
      replace H := Option.bind_eq_some_iff.mp H
      obtain ⟨t136, A90, H⟩ := H
      replace H : (if t136 = true then (if x10_1.length < 8796093022208 then (wild_sayUnion.l0 k1 a1 a2 a3 (x10_1 ++ [rdOf ByteArray.empty l0 x16_1]) x11_1 l0 (l0.length : Int) (wrap64 (x16_1 + 1))) else (none)) else (if x11_1.length < 8796093022208 then (wild_sayUnion.l0 k1 a1 a2 a3 x10_1 (x11_1 ++ [rdOf ByteArray.empty l0 x16_1]) l0 (l0.length : Int) (wrap64 (x16_1 + 1))) else (none))) = some (r1, r2, r3, r4, r5) := H
      have A9 := Aside0.mk A90
      clear A90
      by_cases c10 : t136 = true
      ·subst c10
       have H1 : (if x10_1.length < 8796093022208 then (wild_sayUnion.l0 k1 a1 a2 a3 (x10_1 ++ [rdOf ByteArray.empty l0 x16_1]) x11_1 l0 (l0.length : Int) (wrap64 (x16_1 + 1))) else (none)) = some (r1, r2, r3, r4, r5) := by rw [if_pos rfl] at H; exact H
       clear H
       have H := H1
       clear H1
       by_cases c11 : x10_1.length < 8796093022208
       ·rw [if_pos c11] at H
        have LMc11 := Aside0.mk c11
        clear c11
        obtain ⟨y137, hy137⟩ : ∃ y_ : List ByteArray, y_ = (x10_1 ++ [rdOf ByteArray.empty l0 x16_1]) := ⟨_, rfl⟩
        replace H : (wild_sayUnion.l0 k1 a1 a2 a3 y137 x11_1 l0 (l0.length : Int) (wrap64 (x16_1 + 1))) = some (r1, r2, r3, r4, r5) := by first | (rw [hy137]; with_reducible exact H) | (have H2_ := (Option.bind_some _ _).symm.trans H; rw [hy137]; with_reducible exact H2_) | (have H2_ := (Option.bind_some _ _).symm.trans H; with_reducible exact H2_) | with_reducible exact H | (rw [hy137]; exact H) | exact H
        have Ny137 := Aside0.mk hy137
        clear hy137
        have H' := Aside0.mk H
        clear H
        have p135 : 0 ≤ (x16_1 : Int) := of_decide_eq_true (by first | (with_reducible assumption) | assumption)
        have q135 : x16_1 < (l0.length : Int) := of_decide_eq_true (by first | (with_reducible assumption) | assumption)
        obtain ⟨ad135, e135, hx135_0⟩ := Kd.at_string HR0.out x16_1 p135 q135
        cases e135
        replace hx135_0 := (HB.out.cell (World.block_lt_of_cell? w _ hx135_0)).trans hx135_0
        replace p135 := eq_true p135
        replace q135 := eq_true q135
        go_wp2_with (first | (go_at_call 29; (refine (wild_clUnion.calls k1 gA gB AA AB cA cB a3 (rdOf ByteArray.empty l0 x16_1) true _ ?sideA ?sideB ?sideC HCA.out ?sideD HCB.out A9.out).mono ?_); (case sideA => exact blk_below HGA.out (by repeat (first | (with_reducible first | exact HB.out | apply below_alloc | apply pw_below_drewN | apply below_drew1 | refine below_set ?_ GE134.out) | exact HB.out))); (case sideB => exact blk_below HGB.out (by repeat (first | (with_reducible first | exact HB.out | apply below_alloc | apply pw_below_drewN | apply below_drew1 | refine below_set ?_ GE134.out) | exact HB.out))); (case sideC => exact Kd.C_below HRA.out (by repeat (first | (with_reducible first | exact HB.out | apply below_alloc | apply pw_below_drewN | apply below_drew1 | refine below_set ?_ GE134.out) | exact HB.out))); (case sideD => exact Kd.C_below HRB.out (by repeat (first | (with_reducible first | exact HB.out | apply below_alloc | apply pw_below_drewN | apply below_drew1 | refine below_set ?_ GE134.out) | exact HB.out))); rintro e w12 ⟨rfl, hb⟩; have n0_ := Aside0.mk (Kd.R_below (S.r HO_10.out) hb); have n1_ := Aside0.mk (Kd.R_below (S.r HO_11.out) hb); have n2_ := Aside0.mk (blk_below (g := gb134) (o := .cells #[.int .i64 0, .string (⟨#[]⟩ : ByteArray), .slice none 0 0, .int .i64 0] 26 (0, 0)) (S.b BK134.out) hb); have n3_ := Aside0.mk (below_step (by repeat (first | (with_reducible first | exact HB.out | apply below_alloc | apply pw_below_drewN | apply below_drew1 | refine below_set ?_ GE134.out) | exact HB.out)) hb); clear HO_10; clear HO_11; clear BK134; clear HB; have HO_10 := n0_; have HO_11 := n1_; have BK134 := n2_; have HB := n3_; clear n0_ n1_ n2_ n3_; (try clear hb); (try clear hb2); (try clear hk); (try clear hi)) | ((with_reducible refine gate_builtin (b := .append) (xs := #[.tmp 23, .tmp 25]) rfl ?_); (try (refine gate_guard (by rfl) ?_; dsimp only)); at_builtin; refine Kd.R_append Kd.string (w0 := w) w.heap.size rfl (.tmp 23) (.tmp 25) 24 9 (.string ⟨#[]⟩) 16 rfl Try.underlying24 info9 rfl (by decide) (by omega) u10 x10_1 (rdOf ByteArray.empty l0 x16_1) [.string (rdOf ByteArray.empty l0 x16_1)] (fun k_ => (w.heap.size ≤ k_) ∧ some k_ ≠ (u11 : Value).ownBlock) (fun _ => False) rfl rfl ?aP (fun _ hk => hk.elim) ?aF ?aO ?aB ?aS ?aL ?_; (case aP => exact rfl); (case aB => exact (by repeat (first | (with_reducible first | exact HB.out | apply below_alloc | apply pw_below_drewN | apply below_drew1 | refine below_set ?_ GE134.out) | exact HB.out))); (case aF => exact (fun k_ hk => ⟨(Nat.le_trans (below_size (by repeat (first | (with_reducible first | exact HB.out | apply below_alloc | apply pw_below_drewN | apply below_drew1 | refine below_set ?_ GE134.out) | exact HB.out))) hk), Kd.fresh' (Kd.R_lt (S.r HO_11.out)) k_ hk⟩)); (case aO => exact (S.r HO_10.out)); (case aS => exact (below_size (by repeat (first | (with_reducible first | exact HB.out | apply below_alloc | apply pw_below_drewN | apply below_drew1 | refine below_set ?_ GE134.out) | exact HB.out)))); (case aL => have := LMc11.out; omega); intro v138 w13 ho hb hg hat; rw [← Ny137.out] at ho; have n0_ := Aside0.mk (Kd.R_after (ok := (fun k_ => (w.heap.size ≤ k_))) (S.r HO_11.out) hg hat); have n1_ := Aside0.mk (blk_grown (g := gb134) (o := .cells #[.int .i64 0, .string (⟨#[]⟩ : ByteArray), .slice none 0 0, .int .i64 0] 26 (0, 0)) (S.b BK134.out) hg (Kd.R_ne HO_10.out BK134.out (by decide))); have n2_ := Aside0.mk (hb); have n3_ := Aside0.mk (ho); clear HO_11; clear BK134; clear HB; clear HO_10; have HO_11 := n0_; have BK134 := n1_; have HB := n2_; have HO139 := n3_; clear n0_ n1_ n2_ n3_; clear ho hb hg hat))
        go_roundg k1
        case measure => have := HK1.out; omega
        case rel => exact ⟨(y137), (x11_1), (wrap64 (x16_1 + 1)), (by first | rfl | (simp; done) | (simp [*]; done)), H', ⟨by have := HK1.out; omega⟩, ⟨S.r HO139.out⟩, ⟨S.r HO_11.out⟩, ⟨S.b BK134.out⟩, ⟨by repeat (first | (with_reducible first | exact HB.out | apply below_alloc | apply pw_below_drewN | apply below_drew1 | refine below_set ?_ GE134.out) | exact HB.out)⟩⟩
       ·rw [if_neg c11] at H
        exact absurd H (by simp)
      ·replace c10 := Bool.eq_false_iff.mpr c10
       subst c10
       have H1 : (if x11_1.length < 8796093022208 then (wild_sayUnion.l0 k1 a1 a2 a3 x10_1 (x11_1 ++ [rdOf ByteArray.empty l0 x16_1]) l0 (l0.length : Int) (wrap64 (x16_1 + 1))) else (none)) = some (r1, r2, r3, r4, r5) := by rw [if_neg (show ¬ (false = true) by decide)] at H; exact H
       clear H
       have H := H1
       clear H1
       by_cases c14 : x11_1.length < 8796093022208
       ·rw [if_pos c14] at H
        have LMc14 := Aside0.mk c14
        clear c14
        obtain ⟨y140, hy140⟩ : ∃ y_ : List ByteArray, y_ = (x11_1 ++ [rdOf ByteArray.empty l0 x16_1]) := ⟨_, rfl⟩
        replace H : (wild_sayUnion.l0 k1 a1 a2 a3 x10_1 y140 l0 (l0.length : Int) (wrap64 (x16_1 + 1))) = some (r1, r2, r3, r4, r5) := by first | (rw [hy140]; with_reducible exact H) | (have H2_ := (Option.bind_some _ _).symm.trans H; rw [hy140]; with_reducible exact H2_) | (have H2_ := (Option.bind_some _ _).symm.trans H; with_reducible exact H2_) | with_reducible exact H | (rw [hy140]; exact H) | exact H
        have Ny140 := Aside0.mk hy140
        clear hy140
        have H' := Aside0.mk H
        clear H
        have p135 : 0 ≤ (x16_1 : Int) := of_decide_eq_true (by first | (with_reducible assumption) | assumption)
        have q135 : x16_1 < (l0.length : Int) := of_decide_eq_true (by first | (with_reducible assumption) | assumption)
        obtain ⟨ad135, e135, hx135_0⟩ := Kd.at_string HR0.out x16_1 p135 q135
        cases e135
        replace hx135_0 := (HB.out.cell (World.block_lt_of_cell? w _ hx135_0)).trans hx135_0
        replace p135 := eq_true p135
        replace q135 := eq_true q135
        go_wp2_with (first | (go_at_call 29; (refine (wild_clUnion.calls k1 gA gB AA AB cA cB a3 (rdOf ByteArray.empty l0 x16_1) false _ ?sideA ?sideB ?sideC HCA.out ?sideD HCB.out A9.out).mono ?_); (case sideA => exact blk_below HGA.out (by repeat (first | (with_reducible first | exact HB.out | apply below_alloc | apply pw_below_drewN | apply below_drew1 | refine below_set ?_ GE134.out) | exact HB.out))); (case sideB => exact blk_below HGB.out (by repeat (first | (with_reducible first | exact HB.out | apply below_alloc | apply pw_below_drewN | apply below_drew1 | refine below_set ?_ GE134.out) | exact HB.out))); (case sideC => exact Kd.C_below HRA.out (by repeat (first | (with_reducible first | exact HB.out | apply below_alloc | apply pw_below_drewN | apply below_drew1 | refine below_set ?_ GE134.out) | exact HB.out))); (case sideD => exact Kd.C_below HRB.out (by repeat (first | (with_reducible first | exact HB.out | apply below_alloc | apply pw_below_drewN | apply below_drew1 | refine below_set ?_ GE134.out) | exact HB.out))); rintro e w15 ⟨rfl, hb⟩; have n0_ := Aside0.mk (Kd.R_below (S.r HO_10.out) hb); have n1_ := Aside0.mk (Kd.R_below (S.r HO_11.out) hb); have n2_ := Aside0.mk (blk_below (g := gb134) (o := .cells #[.int .i64 0, .string (⟨#[]⟩ : ByteArray), .slice none 0 0, .int .i64 0] 26 (0, 0)) (S.b BK134.out) hb); have n3_ := Aside0.mk (below_step (by repeat (first | (with_reducible first | exact HB.out | apply below_alloc | apply pw_below_drewN | apply below_drew1 | refine below_set ?_ GE134.out) | exact HB.out)) hb); clear HO_10; clear HO_11; clear BK134; clear HB; have HO_10 := n0_; have HO_11 := n1_; have BK134 := n2_; have HB := n3_; clear n0_ n1_ n2_ n3_; (try clear hb); (try clear hb2); (try clear hk); (try clear hi)) | ((with_reducible refine gate_builtin (b := .append) (xs := #[.tmp 27, .tmp 29]) rfl ?_); (try (refine gate_guard (by rfl) ?_; dsimp only)); at_builtin; refine Kd.R_append Kd.string (w0 := w) w.heap.size rfl (.tmp 27) (.tmp 29) 24 9 (.string ⟨#[]⟩) 16 rfl Try.underlying24 info9 rfl (by decide) (by omega) u11 x11_1 (rdOf ByteArray.empty l0 x16_1) [.string (rdOf ByteArray.empty l0 x16_1)] (fun k_ => (w.heap.size ≤ k_) ∧ some k_ ≠ (u10 : Value).ownBlock) (fun _ => False) rfl rfl ?aP (fun _ hk => hk.elim) ?aF ?aO ?aB ?aS ?aL ?_; (case aP => exact rfl); (case aB => exact (by repeat (first | (with_reducible first | exact HB.out | apply below_alloc | apply pw_below_drewN | apply below_drew1 | refine below_set ?_ GE134.out) | exact HB.out))); (case aF => exact (fun k_ hk => ⟨(Nat.le_trans (below_size (by repeat (first | (with_reducible first | exact HB.out | apply below_alloc | apply pw_below_drewN | apply below_drew1 | refine below_set ?_ GE134.out) | exact HB.out))) hk), Kd.fresh' (Kd.R_lt (S.r HO_10.out)) k_ hk⟩)); (case aO => exact (S.r HO_11.out)); (case aS => exact (below_size (by repeat (first | (with_reducible first | exact HB.out | apply below_alloc | apply pw_below_drewN | apply below_drew1 | refine below_set ?_ GE134.out) | exact HB.out)))); (case aL => have := LMc14.out; omega); intro v141 w16 ho hb hg hat; rw [← Ny140.out] at ho; have n0_ := Aside0.mk (Kd.R_after (ok := (fun k_ => (w.heap.size ≤ k_))) (S.r HO_10.out) hg hat); have n1_ := Aside0.mk (blk_grown (g := gb134) (o := .cells #[.int .i64 0, .string (⟨#[]⟩ : ByteArray), .slice none 0 0, .int .i64 0] 26 (0, 0)) (S.b BK134.out) hg (Kd.R_ne HO_11.out BK134.out (by decide))); have n2_ := Aside0.mk (hb); have n3_ := Aside0.mk (ho); clear HO_10; clear BK134; clear HB; clear HO_11; have HO_10 := n0_; have BK134 := n1_; have HB := n2_; have HO142 := n3_; clear n0_ n1_ n2_ n3_; clear ho hb hg hat))
        go_roundg k1
        case measure => have := HK1.out; omega
        case rel => exact ⟨(x10_1), (y140), (wrap64 (x16_1 + 1)), (by first | rfl | (simp; done) | (simp [*]; done)), H', ⟨by have := HK1.out; omega⟩, ⟨S.r HO_10.out⟩, ⟨S.r HO142.out⟩, ⟨S.b BK134.out⟩, ⟨by repeat (first | (with_reducible first | exact HB.out | apply below_alloc | apply pw_below_drewN | apply below_drew1 | refine below_set ?_ GE134.out) | exact HB.out)⟩⟩
       ·rw [if_neg c14] at H
        exact absurd H (by simp)
     ·rw [if_neg c8] at H
      exact absurd H (by simp)
    ·rw [if_neg c7] at H
     exact absurd H (by simp)
   ·rw [if_neg c6] at H
    have c6b0 : decide (x16_1 < (l0.length : Int)) = false := decide_eq_false c6
    clear c6
    by_cases c17 : a1 = true
    ·subst c17
     have H1 : (if (x11_1.length : Int) = 0 then (some (1, (⟨#[]⟩ : ByteArray), ([] : List ByteArray), a2, true)) else (if 0 < (x11_1.length : Int) then (if (rdOf ByteArray.empty x11_1 0).toList = ([] : List UInt8) then (wild_sayUnion.j1 k1 a2 x11_1 (decide ((x11_1.length : Int) > 2))) else (wild_sayUnion.j1 k1 a2 x11_1 true)) else (none))) = some (r1, r2, r3, r4, r5) := by rw [if_pos rfl] at H; exact H
     clear H
     have H := H1
     clear H1
     by_cases c18 : (x11_1.length : Int) = 0
     ·rw [if_pos c18] at H
      have c18b0 : ((x11_1.length : Int) == 0) = true := beq_iff_eq.mpr c18
      have c18b1 : ((x11_1.length : Int) != 0) = false := bne_eq_false_iff_eq.mpr c18
      clear c18
      simp only [Option.some.injEq, Prod.mk.injEq] at H
      obtain ⟨rfl, rfl, rfl, rfl, rfl⟩ := H
      obtain ⟨Ao19, co19, eo19⟩ := Kd.R_slice HO_11.out
      subst eo19
      have hcz20_0 : wr.cell? ⟨gb134, 0, none⟩ = some (.int .i64 0) := (blk_cell BK134.out 0).trans rfl
      have hcz20_1 : wr.cell? ⟨gb134, 1, none⟩ = some (.string (⟨#[]⟩ : ByteArray)) := (blk_cell BK134.out 1).trans rfl
      have hcz20_2 : wr.cell? ⟨gb134, 2, none⟩ = some (.slice none 0 0) := (blk_cell BK134.out 2).trans rfl
      have hcz20_3 : wr.cell? ⟨gb134, 3, none⟩ = some (.int .i64 0) := (blk_cell BK134.out 3).trans rfl
      have hfz20_0 := blk_frozen BK134.out 0
      have hfz20_1 := blk_frozen BK134.out 1
      have hfz20_2 := blk_frozen BK134.out 2
      have hfz20_3 := blk_frozen BK134.out 3
      go_wp2
      refine bodyPost_ret (results_ct rfl _ _ gb134 26 #[.int .i64 1, .string (⟨#[]⟩ : ByteArray), .slice none 0 0, .int .i64 a2] (0, 0) _ rfl (by (with_reducible repeat (first | refine blk_drewN ?_ _ | refine blk_drew ?_ | refine blk_alloc ?_ _)); refine blk_put (cs := #[.int .i64 1, .string (⟨#[]⟩ : ByteArray), .slice none 0 0, .int .i64 0]) ?_ 3 _ rfl; (with_reducible repeat (first | refine blk_drewN ?_ _ | refine blk_drew ?_ | refine blk_alloc ?_ _)); refine blk_put (cs := #[.int .i64 1, .string (⟨#[]⟩ : ByteArray), .slice none 0 0, .int .i64 0]) ?_ 2 _ rfl; (with_reducible repeat (first | refine blk_drewN ?_ _ | refine blk_drew ?_ | refine blk_alloc ?_ _)); refine blk_put (cs := #[.int .i64 1, .string (⟨#[]⟩ : ByteArray), .slice none 0 0, .int .i64 0]) ?_ 1 _ rfl; (with_reducible repeat (first | refine blk_drewN ?_ _ | refine blk_drew ?_ | refine blk_alloc ?_ _)); refine blk_put (cs := #[.int .i64 0, .string (⟨#[]⟩ : ByteArray), .slice none 0 0, .int .i64 0]) ?_ 0 _ rfl; (with_reducible repeat (first | refine blk_drewN ?_ _ | refine blk_drew ?_ | refine blk_alloc ?_ _)); exact BK134.out) Try.underlying26 rfl (by kernel_rfl)) rfl ?_
      exact ⟨_, by first | rfl | (simp [errW_none, errW_some] <;> rfl) | (simp [*, errW_none, errW_some] <;> rfl), Kd.V_nil _ _ _ _ _, by repeat (first | (with_reducible first | exact HB.out | apply below_alloc | apply pw_below_drewN | apply below_drew1 | refine below_set ?_ GE134.out) | exact HB.out)⟩
     ·rw [if_neg c18] at H
      have c18b0 : ((x11_1.length : Int) == 0) = false := beq_eq_false_iff_ne.mpr c18
      have c18b1 : ((x11_1.length : Int) != 0) = true := bne_iff_ne.mpr c18
      have c18b2 : ¬ (x11_1 = []) := fun h_ => c18 (by rw [h_]; rfl)
      have HC21 := Aside0.mk H
      clear H
      obtain ⟨Ao22, co22, eo22⟩ := Kd.R_slice HO_11.out
      subst eo22
      go_upto_region 13 with (fail)
      go_cut [44] (fun v44 wc => ∃ (kq : Nat) (x44_20 : Bool), v44 = .bool x44_20 ∧ Aside0 (wild_sayUnion.j1 kq a2 x11_1 x44_20 = some (r1, r2, r3, r4, r5)) ∧ Aside0 (kq ≤ k1) ∧ Aside0 (Kd.R Kd.string 9 wc w.heap.size (fun k_ => (w.heap.size ≤ k_)) (.slice Ao22 x11_1.length co22) x11_1) ∧ Aside0 (wc.heap[gb134]? = some (.cells #[.int .i64 0, .string (⟨#[]⟩ : ByteArray), (.slice none 0 0), .int .i64 0] 26 (0, 0))) ∧ Aside0 (Below w.heap.size w wc))
      case first =>
       have H := HC21.out
       clear HC21
       by_cases c23 : 0 < (x11_1.length : Int)
       ·rw [if_pos c23] at H
        have c23b0 : decide (0 < (x11_1.length : Int)) = true := decide_eq_true c23
        have c23b1 : decide (0 < x11_1.length) = true := decide_eq_true (by omega)
        clear c23
        (first | rw [c23b0] | (simp only [i64_w, i32_w]; rw [c23b0]) | skip)
        by_cases c24 : (rdOf ByteArray.empty x11_1 0).toList = ([] : List UInt8)
        ·rw [if_pos c24] at H
         have c24b0 : ((rdOf ByteArray.empty x11_1 0).toList == ([] : List UInt8)) = true := beq_iff_eq.mpr c24
         have c24b1 : ((rdOf ByteArray.empty x11_1 0).toList != ([] : List UInt8)) = false := bne_eq_false_iff_eq.mpr c24
         clear c24
         have H' := Aside0.mk H
         clear H
         have p143 : 0 ≤ (0 : Int) := (by omega)
         have q143 : 0 < (x11_1.length : Int) := of_decide_eq_true (by first | (with_reducible assumption) | assumption)
         obtain ⟨ad143, e143, hx143_0⟩ := Kd.at_string (Kd.R_reads' HO_11.out).2.2 0 p143 q143
         cases e143
         have qi143 : (0 < x11_1.length) = True := eq_true (by omega)
         (try rw [show ((0 : Int)).toNat = 0 from rfl] at hx143_0)
         (try rw [Addr.add_zero'] at hx143_0)
         replace p143 := eq_true p143
         replace q143 := eq_true q143
         go_wp2
         go_meet
         case rel => exact ⟨_, (decide ((x11_1.length : Int) > 2)), (by first | rfl | (simp; done) | (simp [*]; done)), H', ⟨by have := HK1.out; first | omega | exact Nat.le_refl _⟩, ⟨by (with_reducible repeat (first | apply Kd.R_alloc | apply Kd.R_drewN | apply Kd.R_drew)); exact Kd.R_mono HO_11.out (fun _ hk => hk.1)⟩, ⟨S.b BK134.out⟩, ⟨by repeat (first | (with_reducible first | exact HB.out | apply below_alloc | apply pw_below_drewN | apply below_drew1 | refine below_set ?_ GE134.out) | exact HB.out)⟩⟩
        ·rw [if_neg c24] at H
         have c24b0 : ((rdOf ByteArray.empty x11_1 0).toList == ([] : List UInt8)) = false := beq_eq_false_iff_ne.mpr c24
         have c24b1 : ((rdOf ByteArray.empty x11_1 0).toList != ([] : List UInt8)) = true := bne_iff_ne.mpr c24
         have H' := Aside0.mk H
         clear H
         have p143 : 0 ≤ (0 : Int) := (by omega)
         have q143 : 0 < (x11_1.length : Int) := of_decide_eq_true (by first | (with_reducible assumption) | assumption)
         obtain ⟨ad143, e143, hx143_0⟩ := Kd.at_string (Kd.R_reads' HO_11.out).2.2 0 p143 q143
         cases e143
         have qi143 : (0 < x11_1.length) = True := eq_true (by omega)
         (try rw [show ((0 : Int)).toNat = 0 from rfl] at hx143_0)
         (try rw [Addr.add_zero'] at hx143_0)
         replace p143 := eq_true p143
         replace q143 := eq_true q143
         go_wp2
         go_meet
         case rel => exact ⟨_, (true), (by first | rfl | (simp; done) | (simp [*]; done)), H', ⟨by have := HK1.out; first | omega | exact Nat.le_refl _⟩, ⟨by (with_reducible repeat (first | apply Kd.R_alloc | apply Kd.R_drewN | apply Kd.R_drew)); exact Kd.R_mono HO_11.out (fun _ hk => hk.1)⟩, ⟨S.b BK134.out⟩, ⟨by repeat (first | (with_reducible first | exact HB.out | apply below_alloc | apply pw_below_drewN | apply below_drew1 | refine below_set ?_ GE134.out) | exact HB.out)⟩⟩
       ·rw [if_neg c23] at H
        exact absurd H (by simp)
      case rest =>
       clear HC21
       try clear c1
       try clear p1
       try clear q1
       try clear hx1
       try clear qi1
       try clear c2
       try clear p2
       try clear c3
       try clear c6
       try clear c6b0
       try clear p6
       try clear c7
       try clear c7b0
       try clear c8
       try clear c8b0
       try clear c10
       try clear c11
       try clear p13
       try clear q13
       try clear hx13
       try clear c14
       try clear p14
       try clear q14
       try clear hx14
       try clear qi14
       try clear c17
       try clear c18
       try clear c18b0
       try clear c18b1
       try clear c18b2
       try clear c23
       try clear c23b0
       try clear c23b1
       try clear c24
       try clear c24b0
       try clear c24b1
       try clear hcz20_0
       try clear hcz20_1
       try clear hcz20_2
       try clear hcz20_3
       try clear hfz20_0
       try clear hfz20_1
       try clear hfz20_2
       try clear hfz20_3
       try clear hx135_0
       try clear hx143_0
       try clear p135
       try clear p143
       try clear p2
       try clear q135
       try clear q143
       obtain ⟨kq, x44_20, rfl, HA, HJ20, HO_11, BK134, HB⟩ := hcut
       cases kq with
       | zero => exact absurd HA.out (by simp [wild_sayUnion.j1])
       | succ kj20 =>
        have H := HA.out
        clear HA
        simp only [wild_sayUnion.j1] at H
        by_cases c25 : x44_20 = true
        ·subst c25
         have H1 : (some (0, (⟨#[]⟩ : ByteArray), ([] : List ByteArray), 0, false)) = some (r1, r2, r3, r4, r5) := by rw [if_pos rfl] at H; exact H
         clear H
         have H := H1
         clear H1
         simp only [Option.some.injEq, Prod.mk.injEq] at H
         obtain ⟨rfl, rfl, rfl, rfl, rfl⟩ := H
         have hcz26_0 : wc.cell? ⟨gb134, 0, none⟩ = some (.int .i64 0) := (blk_cell BK134.out 0).trans rfl
         have hcz26_1 : wc.cell? ⟨gb134, 1, none⟩ = some (.string (⟨#[]⟩ : ByteArray)) := (blk_cell BK134.out 1).trans rfl
         have hcz26_2 : wc.cell? ⟨gb134, 2, none⟩ = some (.slice none 0 0) := (blk_cell BK134.out 2).trans rfl
         have hcz26_3 : wc.cell? ⟨gb134, 3, none⟩ = some (.int .i64 0) := (blk_cell BK134.out 3).trans rfl
         have hfz26_0 := blk_frozen BK134.out 0
         have hfz26_1 := blk_frozen BK134.out 1
         have hfz26_2 := blk_frozen BK134.out 2
         have hfz26_3 := blk_frozen BK134.out 3
         go_wp2
         refine bodyPost_ret (results_ct rfl _ _ gb134 26 #[.int .i64 0, .string (⟨#[]⟩ : ByteArray), .slice none 0 0, .int .i64 0] (0, 0) _ rfl (by (with_reducible repeat (first | refine blk_drewN ?_ _ | refine blk_drew ?_ | refine blk_alloc ?_ _)); refine blk_put (cs := #[.int .i64 0, .string (⟨#[]⟩ : ByteArray), .slice none 0 0, .int .i64 0]) ?_ 3 _ rfl; (with_reducible repeat (first | refine blk_drewN ?_ _ | refine blk_drew ?_ | refine blk_alloc ?_ _)); refine blk_put (cs := #[.int .i64 0, .string (⟨#[]⟩ : ByteArray), .slice none 0 0, .int .i64 0]) ?_ 2 _ rfl; (with_reducible repeat (first | refine blk_drewN ?_ _ | refine blk_drew ?_ | refine blk_alloc ?_ _)); refine blk_put (cs := #[.int .i64 0, .string (⟨#[]⟩ : ByteArray), .slice none 0 0, .int .i64 0]) ?_ 1 _ rfl; (with_reducible repeat (first | refine blk_drewN ?_ _ | refine blk_drew ?_ | refine blk_alloc ?_ _)); refine blk_put (cs := #[.int .i64 0, .string (⟨#[]⟩ : ByteArray), .slice none 0 0, .int .i64 0]) ?_ 0 _ rfl; (with_reducible repeat (first | refine blk_drewN ?_ _ | refine blk_drew ?_ | refine blk_alloc ?_ _)); exact BK134.out) Try.underlying26 rfl (by kernel_rfl)) rfl ?_
         exact ⟨_, by first | rfl | (simp [errW_none, errW_some] <;> rfl) | (simp [*, errW_none, errW_some] <;> rfl), Kd.V_nil _ _ _ _ _, by repeat (first | (with_reducible first | exact HB.out | apply below_alloc | apply pw_below_drewN | apply below_drew1 | refine below_set ?_ GE134.out) | exact HB.out)⟩
        ·replace c25 := Bool.eq_false_iff.mpr c25
         subst c25
         have H1 : (if (x11_1.length : Int) = 2 then (if 1 < (x11_1.length : Int) then (some (2, rdOf ByteArray.empty x11_1 1, ([] : List ByteArray), a2, true)) else (none)) else (some (2, (⟨#[]⟩ : ByteArray), ([] : List ByteArray), a2, true))) = some (r1, r2, r3, r4, r5) := by rw [if_neg (show ¬ (false = true) by decide)] at H; exact H
         clear H
         have H := H1
         clear H1
         by_cases c27 : (x11_1.length : Int) = 2
         ·rw [if_pos c27] at H
          have c27b0 : ((x11_1.length : Int) == 2) = true := beq_iff_eq.mpr c27
          have c27b1 : ((x11_1.length : Int) != 2) = false := bne_eq_false_iff_eq.mpr c27
          clear c27
          by_cases c28 : 1 < (x11_1.length : Int)
          ·rw [if_pos c28] at H
           have c28b0 : decide (1 < (x11_1.length : Int)) = true := decide_eq_true c28
           have c28b1 : decide (1 < x11_1.length) = true := decide_eq_true (by omega)
           clear c28
           simp only [Option.some.injEq, Prod.mk.injEq] at H
           obtain ⟨rfl, rfl, rfl, rfl, rfl⟩ := H
           have p144 : 0 ≤ (1 : Int) := (by omega)
           have q144 : 1 < (x11_1.length : Int) := of_decide_eq_true (by first | (with_reducible assumption) | assumption)
           obtain ⟨ad144, e144, hx144_0⟩ := Kd.at_string (Kd.R_reads' HO_11.out).2.2 1 p144 q144
           cases e144
           (try simp only [show (1 : Int).toNat = 1 from rfl, Nat.reduceMul, Nat.reduceEqDiff, Go.Addr.add, ↓reduceIte] at hx144_0)
           have qi144 : (1 < x11_1.length) = True := eq_true (by omega)
           (try rw [show ((1 : Int)).toNat = 1 from rfl] at hx144_0)
           replace p144 := eq_true p144
           replace q144 := eq_true q144
           have hcz29_0 : wc.cell? ⟨gb134, 0, none⟩ = some (.int .i64 0) := (blk_cell BK134.out 0).trans rfl
           have hcz29_1 : wc.cell? ⟨gb134, 1, none⟩ = some (.string (⟨#[]⟩ : ByteArray)) := (blk_cell BK134.out 1).trans rfl
           have hcz29_2 : wc.cell? ⟨gb134, 2, none⟩ = some (.slice none 0 0) := (blk_cell BK134.out 2).trans rfl
           have hcz29_3 : wc.cell? ⟨gb134, 3, none⟩ = some (.int .i64 0) := (blk_cell BK134.out 3).trans rfl
           have hfz29_0 := blk_frozen BK134.out 0
           have hfz29_1 := blk_frozen BK134.out 1
           have hfz29_2 := blk_frozen BK134.out 2
           have hfz29_3 := blk_frozen BK134.out 3
           go_wp2
           refine bodyPost_ret (results_ct rfl _ _ gb134 26 #[.int .i64 2, .string (rdOf ByteArray.empty x11_1 1), .slice none 0 0, .int .i64 a2] (0, 0) _ rfl (by (with_reducible repeat (first | refine blk_drewN ?_ _ | refine blk_drew ?_ | refine blk_alloc ?_ _)); refine blk_put (cs := #[.int .i64 2, .string (rdOf ByteArray.empty x11_1 1), .slice none 0 0, .int .i64 0]) ?_ 3 _ rfl; (with_reducible repeat (first | refine blk_drewN ?_ _ | refine blk_drew ?_ | refine blk_alloc ?_ _)); refine blk_put (cs := #[.int .i64 2, .string (rdOf ByteArray.empty x11_1 1), .slice none 0 0, .int .i64 0]) ?_ 2 _ rfl; (with_reducible repeat (first | refine blk_drewN ?_ _ | refine blk_drew ?_ | refine blk_alloc ?_ _)); refine blk_put (cs := #[.int .i64 2, .string (⟨#[]⟩ : ByteArray), .slice none 0 0, .int .i64 0]) ?_ 1 _ rfl; (with_reducible repeat (first | refine blk_drewN ?_ _ | refine blk_drew ?_ | refine blk_alloc ?_ _)); refine blk_put (cs := #[.int .i64 0, .string (⟨#[]⟩ : ByteArray), .slice none 0 0, .int .i64 0]) ?_ 0 _ rfl; (with_reducible repeat (first | refine blk_drewN ?_ _ | refine blk_drew ?_ | refine blk_alloc ?_ _)); exact BK134.out) Try.underlying26 rfl (by kernel_rfl)) rfl ?_
           exact ⟨_, by first | rfl | (simp [errW_none, errW_some] <;> rfl) | (simp [*, errW_none, errW_some] <;> rfl), Kd.V_nil _ _ _ _ _, by repeat (first | (with_reducible first | exact HB.out | apply below_alloc | apply pw_below_drewN | apply below_drew1 | refine below_set ?_ GE134.out) | exact HB.out)⟩
          ·rw [if_neg c28] at H
           exact absurd H (by simp)
         ·rw [if_neg c27] at H
          have c27b0 : ((x11_1.length : Int) == 2) = false := beq_eq_false_iff_ne.mpr c27
          have c27b1 : ((x11_1.length : Int) != 2) = true := bne_iff_ne.mpr c27
          simp only [Option.some.injEq, Prod.mk.injEq] at H
          obtain ⟨rfl, rfl, rfl, rfl, rfl⟩ := H
          have hcz30_0 : wc.cell? ⟨gb134, 0, none⟩ = some (.int .i64 0) := (blk_cell BK134.out 0).trans rfl
          have hcz30_1 : wc.cell? ⟨gb134, 1, none⟩ = some (.string (⟨#[]⟩ : ByteArray)) := (blk_cell BK134.out 1).trans rfl
          have hcz30_2 : wc.cell? ⟨gb134, 2, none⟩ = some (.slice none 0 0) := (blk_cell BK134.out 2).trans rfl
          have hcz30_3 : wc.cell? ⟨gb134, 3, none⟩ = some (.int .i64 0) := (blk_cell BK134.out 3).trans rfl
          have hfz30_0 := blk_frozen BK134.out 0
          have hfz30_1 := blk_frozen BK134.out 1
          have hfz30_2 := blk_frozen BK134.out 2
          have hfz30_3 := blk_frozen BK134.out 3
          go_wp2
          refine bodyPost_ret (results_ct rfl _ _ gb134 26 #[.int .i64 2, .string (⟨#[]⟩ : ByteArray), .slice none 0 0, .int .i64 a2] (0, 0) _ rfl (by (with_reducible repeat (first | refine blk_drewN ?_ _ | refine blk_drew ?_ | refine blk_alloc ?_ _)); refine blk_put (cs := #[.int .i64 2, .string (⟨#[]⟩ : ByteArray), .slice none 0 0, .int .i64 0]) ?_ 3 _ rfl; (with_reducible repeat (first | refine blk_drewN ?_ _ | refine blk_drew ?_ | refine blk_alloc ?_ _)); refine blk_put (cs := #[.int .i64 2, .string (⟨#[]⟩ : ByteArray), .slice none 0 0, .int .i64 0]) ?_ 2 _ rfl; (with_reducible repeat (first | refine blk_drewN ?_ _ | refine blk_drew ?_ | refine blk_alloc ?_ _)); refine blk_put (cs := #[.int .i64 2, .string (⟨#[]⟩ : ByteArray), .slice none 0 0, .int .i64 0]) ?_ 1 _ rfl; (with_reducible repeat (first | refine blk_drewN ?_ _ | refine blk_drew ?_ | refine blk_alloc ?_ _)); refine blk_put (cs := #[.int .i64 0, .string (⟨#[]⟩ : ByteArray), .slice none 0 0, .int .i64 0]) ?_ 0 _ rfl; (with_reducible repeat (first | refine blk_drewN ?_ _ | refine blk_drew ?_ | refine blk_alloc ?_ _)); exact BK134.out) Try.underlying26 rfl (by kernel_rfl)) rfl ?_
          exact ⟨_, by first | rfl | (simp [errW_none, errW_some] <;> rfl) | (simp [*, errW_none, errW_some] <;> rfl), Kd.V_nil _ _ _ _ _, by repeat (first | (with_reducible first | exact HB.out | apply below_alloc | apply pw_below_drewN | apply below_drew1 | refine below_set ?_ GE134.out) | exact HB.out)⟩
    ·replace c17 := Bool.eq_false_iff.mpr c17
     subst c17
     have H1 : ((G.wild_these.f x10_1 a2).bind fun bt145 => (some (bt145.1, bt145.2.1, bt145.2.2.1, bt145.2.2.2, true))) = some (r1, r2, r3, r4, r5) := by rw [if_neg (show ¬ (false = true) by decide)] at H; exact H
     clear H
     have H := H1
     clear H1
     replace H := Option.bind_eq_some_iff.mp H
     obtain ⟨⟨t145, t146, t147, t150⟩, A310, H⟩ := H
     replace H : (some (t145, t146, t147, t150, true)) = some (r1, r2, r3, r4, r5) := H
     have A31 := Aside0.mk A310
     clear A310
     simp only [Option.some.injEq, Prod.mk.injEq] at H
     obtain ⟨rfl, rfl, rfl, rfl, rfl⟩ := H
     obtain ⟨Ao32, co32, eo32⟩ := Kd.R_slice HO_10.out
     subst eo32
     go_wp2_with (first | ((with_reducible refine gate_callee (f := 25) rfl ?_); refine goesL_ (some 37) rfl rfl Try.func25 (by kernel_rfl) rfl #[.slice Ao32 x10_1.length co32, .int .i64 a2] rfl (by (try simp only [List.map_toArray, List.map_cons, List.map_nil]); first | done | rfl | (simp only [List.length_drop, List.length_take]; rfl)) ?_; (with_reducible refine (G.wild_these.calls _ _ x10_1 a2 t145 t146 t147 t150 _ ?side1 ?side2 A31.out).mono ?_); (case side1 => repeat (first | exact (Kd.R_reads' HO_10.out).2.2 | (with_reducible refine Kd.C_alloc ?_ _) | (with_reducible refine Kd.C_drewN ?_ _) | (with_reducible refine Kd.C_drew ?_))); (case side2 => exact (Kd.R_reads' HO_10.out).2.1); rintro e w33 ⟨v148, rfl, ho0, hb⟩; refine ⟨_, rfl, ?_⟩; have n0_ := Aside0.mk (Kd.R_below (S.r HO_10.out) hb); have n1_ := Aside0.mk (Kd.R_below (S.r HO_11.out) hb); have n2_ := Aside0.mk (Kd.V_lower (Kd.V_mono (ok' := fun k_ => (w.heap.size ≤ k_) ∧ some k_ ≠ (.slice Ao32 x10_1.length co32 : Value).ownBlock ∧ some k_ ≠ (u11 : Value).ownBlock ∧ k_ ≠ gb134) ho0 (fun k_ hk_ => ⟨(Nat.le_trans (below_size (by repeat (first | (with_reducible first | exact HB.out | apply below_alloc | apply pw_below_drewN | apply below_drew1 | refine below_set ?_ GE134.out) | exact HB.out))) hk_), (Kd.fresh' (Kd.R_lt (S.r HO_10.out)) k_ hk_), (Kd.fresh' (Kd.R_lt (S.r HO_11.out)) k_ hk_), (Kd.freshB (g := gb134) (o := .cells #[.int .i64 0, .string (⟨#[]⟩ : ByteArray), .slice none 0 0, .int .i64 0] 26 (0, 0)) (S.b BK134.out) k_ hk_)⟩)) (below_size (by repeat (first | (with_reducible first | exact HB.out | apply below_alloc | apply pw_below_drewN | apply below_drew1 | refine below_set ?_ GE134.out) | exact HB.out)))); have n3_ := Aside0.mk (blk_below (g := gb134) (o := .cells #[.int .i64 0, .string (⟨#[]⟩ : ByteArray), .slice none 0 0, .int .i64 0] 26 (0, 0)) (S.b BK134.out) hb); have n4_ := Aside0.mk (below_step (by repeat (first | (with_reducible first | exact HB.out | apply below_alloc | apply pw_below_drewN | apply below_drew1 | refine below_set ?_ GE134.out) | exact HB.out)) hb); clear HO_10; clear HO_11; clear BK134; clear HB; have HO_10 := n0_; have HO_11 := n1_; have HO149 := n2_; have BK134 := n3_; have HB := n4_; clear n0_ n1_ n2_ n3_ n4_; (try clear hb); (try clear hb2); (try clear hk); (try clear hi); (try clear ho0); have hcz34_0 : w33.cell? ⟨gb134, 0, none⟩ = some (.int .i64 0) := (blk_cell BK134.out 0).trans rfl; have hcz34_1 : w33.cell? ⟨gb134, 1, none⟩ = some (.string (⟨#[]⟩ : ByteArray)) := (blk_cell BK134.out 1).trans rfl; have hcz34_2 : w33.cell? ⟨gb134, 2, none⟩ = some (.slice none 0 0) := (blk_cell BK134.out 2).trans rfl; have hcz34_3 : w33.cell? ⟨gb134, 3, none⟩ = some (.int .i64 0) := (blk_cell BK134.out 3).trans rfl; have hfz34_0 := blk_frozen BK134.out 0; have hfz34_1 := blk_frozen BK134.out 1; have hfz34_2 := blk_frozen BK134.out 2; have hfz34_3 := blk_frozen BK134.out 3; obtain ⟨Ao35, co35, eo35⟩ := Kd.V_slice HO149.out; subst eo35))
     refine bodyPost_ret (results_ct rfl _ _ gb134 26 #[.int .i64 t145, .string t146, .slice Ao35 t147.length co35, .int .i64 t150] (0, 0) _ rfl (by (with_reducible repeat (first | refine blk_drewN ?_ _ | refine blk_drew ?_ | refine blk_alloc ?_ _)); refine blk_put (cs := #[.int .i64 t145, .string t146, .slice Ao35 t147.length co35, .int .i64 0]) ?_ 3 _ rfl; (with_reducible repeat (first | refine blk_drewN ?_ _ | refine blk_drew ?_ | refine blk_alloc ?_ _)); refine blk_put (cs := #[.int .i64 t145, .string t146, .slice none 0 0, .int .i64 0]) ?_ 2 _ rfl; (with_reducible repeat (first | refine blk_drewN ?_ _ | refine blk_drew ?_ | refine blk_alloc ?_ _)); refine blk_put (cs := #[.int .i64 t145, .string (⟨#[]⟩ : ByteArray), .slice none 0 0, .int .i64 0]) ?_ 1 _ rfl; (with_reducible repeat (first | refine blk_drewN ?_ _ | refine blk_drew ?_ | refine blk_alloc ?_ _)); refine blk_put (cs := #[.int .i64 0, .string (⟨#[]⟩ : ByteArray), .slice none 0 0, .int .i64 0]) ?_ 0 _ rfl; (with_reducible repeat (first | refine blk_drewN ?_ _ | refine blk_drew ?_ | refine blk_alloc ?_ _)); exact BK134.out) Try.underlying26 rfl (by kernel_rfl)) rfl ?_
     exact ⟨_, by first | rfl | (simp [errW_none, errW_some] <;> rfl) | (simp [*, errW_none, errW_some] <;> rfl), by (with_reducible repeat (first | apply Kd.V_alloc | apply Kd.V_drewN | apply Kd.V_drew)); exact Kd.V_mono (Kd.V_far (p := ⟨gb134, 3, none⟩) (Kd.V_far (p := ⟨gb134, 2, none⟩) (Kd.V_far (p := ⟨gb134, 1, none⟩) (Kd.V_far (p := ⟨gb134, 0, none⟩) (Kd.V_mono HO149.out (fun k_ hk => (⟨hk, hk.2.2.2⟩ : _ ∧ k_ ≠ gb134))) (fun _ hk => hk.2) (.int .i64 t145)) (fun _ hk => hk.2) (.string t146)) (fun _ hk => hk.2) (.slice Ao35 t147.length co35)) (fun _ hk => hk.2) (.int .i64 t150)) (fun _ hk => hk.1.1), by repeat (first | (with_reducible first | exact HB.out | apply below_alloc | apply pw_below_drewN | apply below_drew1 | refine below_set ?_ GE134.out) | exact HB.out)⟩

-- given: function 38 (slices_Sort_string_string): its contract is G.slices_Sort_str.calls, proved by hand
-- given: function 40 (slices_Compact_string_string): its contract is G.slices_Compact_str.calls, proved by hand


end Go.Proofs.Ytfpedicgeepikaa.G
