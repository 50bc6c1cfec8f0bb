import Derived.Test.YtfpedicgeepikaaProg
import Derived.Below
import Derived.Deep.Draws
import Derived.Deep.AppendLies
import Derived.Maps.AppendAt
import Derived.OwnWalk
import Derived.Laws.BytesArg
import Derived.Laws.MakeOwn
import Derived.Laws.OwnMore
import Derived.Deep.OwnRows
import Derived.Tactics
import Derived.Lib.ConvBytes
import Derived.Laws.Slices
import Derived.WalkKit
import Derived.KernelRfl
import Derived.RowKit3
import Derived.Deep.LoopGhost
import Derived.Deep.QuietTactic
import Derived.BigQuiet
import Derived.WideLaws
import Derived.Deep.DeepCutAuto
import Derived.Deep.CutBlock
import Derived.Deep.RegionHeld3
import Derived.Laws.Rows
import Derived.Lib.AppendStr
import Derived.ArgAppend
import Derived.Laws.IdiomCopy
import Derived.OrdersHeld
import Derived.Laws.BitsLemmas
import Derived.RowKit
import Derived.Test.YtfpedicgeepikaaWWords
import Derived.Test.YtfpedicgeepikaaWLast
import Derived.Test.YtfpedicgeepikaaWTab
import Derived.Test.YtfpedicgeepikaaWQPut
import Derived.Test.YtfpedicgeepikaaWApart
import Derived.Test.YtfpedicgeepikaaWArr
import Derived.Test.YtfpedicgeepikaaWZeros
import Derived.Test.YtfpedicgeepikaaWFoot
import Derived.Test.YtfpedicgeepikaaWKept
import Derived.Test.YtfpedicgeepikaaWShare
import Derived.Test.YtfpedicgeepikaaWN
import Derived.Test.YtfpedicgeepikaaWRepsOne
import Derived.Test.YtfpedicgeepikaaWGuard
import Derived.Test.YtfpedicgeepikaaWNEv
import Derived.Test.YtfpedicgeepikaaWMore
import Derived.Test.YtfpedicgeepikaaG2
import Derived.Lib.Builder

namespace Go.Proofs.Ytfpedicgeepikaa.G
open Go.RowKit Go.Proofs.YtfpedicgeepikaaW.PrintWords Go.Proofs.YtfpedicgeepikaaW.PrintLast Go.Proofs.YtfpedicgeepikaaW.PrintMore
attribute [local go_sem] max2_int min2_int max_two min_two max_three min_three max_four min_four
set_option linter.unusedVariables false
set_option linter.unusedSimpArgs false

/-! ### these -/
def wild_these.f (l0 : List ByteArray) (a1 : Int) : Option (Int × ByteArray × List ByteArray × Int) := if l0.length ≤ 8796093022208 then some (3, ⟨#[]⟩, compL (sortL l0), a1) else none
theorem view4 {w w3 : World} {A : Option Addr} {c base n : Nat} {l : List ByteArray} {ok : Nat → Prop} (hV : Kd.R Kd.string 9 w3 base ok (.slice A l.length c) l) (hb : w.heap.size < base) (hn : l.length ≤ n) (u0 u1 u2 u3 : Value) :
    Kd.V Kd.string 9 ((((w3.setCell ⟨w.heap.size, 0, none⟩ u0).setCell ⟨w.heap.size, 1, none⟩ u1).setCell ⟨w.heap.size, 2, none⟩ u2).setCell ⟨w.heap.size, 3, none⟩ u3) w.heap.size (fun k_ => w.heap.size ≤ k_) (.slice A l.length n) l := by
  have h1 := (Kd.V_at (Kd.R_V (base' := 0) (Kd.R_bound hV))).2.2
  refine Kd.V_mk hn (Kd.F_mono (ok := fun k => base ≤ k) ?_ (fun k hk => by omega))
  exact Kd.F_far (p := ⟨w.heap.size, 3, none⟩) (Kd.F_far (p := ⟨w.heap.size, 2, none⟩) (Kd.F_far (p := ⟨w.heap.size, 1, none⟩) (Kd.F_far (p := ⟨w.heap.size, 0, none⟩) (Kd.F_mono h1 (fun k hk => hk.2.1)) (fun k hk => by simp only; omega) u0) (fun k hk => by simp only; omega) u1) (fun k hk => by simp only; omega) u2) (fun k hk => by simp only; omega) u3
theorem encs_map' {α : Type} (enc : α → Value) (l : List α) : encs enc l = l.map enc := by simp [encs]
theorem own_R {base : Nat} {w : World} {v : Value} {l : List ByteArray} (h : w.ownsRow base 9 1 v l.length (l.map Value.string)) : Kd.R Kd.string 9 w base (fun _ => True) v l :=
  Kd.R_of_own (by rw [encs_map']; exact h) (fun _ _ => trivial)
theorem own_slice {base : Nat} {w : World} {v : Value} {n : Nat} {xs : List Value} (h : w.ownsRow base 9 1 v n xs) : ∃ A c, v = .slice A n c ∧ n ≤ c := by
  rcases h.2 with ⟨rfl, hn⟩ | ⟨g, cap, cur, rfl, hbase, hc, h1, h2, h3, h4⟩
  · exact ⟨none, 0, by rw [hn], by omega⟩
  · exact ⟨_, cap, rfl, h1⟩
set_option maxHeartbeats 4000000 in
theorem wild_these.calls (A0 : Option Addr) (c0 : Nat) (l0 : List ByteArray) (a1 : Int) (r0 : Int) (r1 : ByteArray) (r2 : List ByteArray) (r3 : Int) (w : World) (hr0 : Kd.C Kd.string w A0 l0.length l0) (hc0 : l0.length ≤ c0) (h : wild_these.f l0 a1 = some (r0, r1, r2, r3)) :
    Calls Try.prog 25 #[.slice A0 l0.length c0, .int .i64 a1] w fun e w' => ∃ v2_ : Value, e = .returned (.agg #[.int .i64 r0, .string r1, v2_, .int .i64 r3]) ∧ Kd.V Kd.string 9 w' w.heap.size (fun k_ => (w.heap.size ≤ k_)) v2_ r2 ∧ Below w.heap.size w w' := by
  unfold wild_these.f at h
  split at h
  · rename_i hbig
    simp only [Option.some.injEq, Prod.mk.injEq] at h
    obtain ⟨rfl, rfl, rfl, rfl⟩ := h
    have HR := Aside0.mk hr0
    clear hr0
    go_enter Try.func25, Try.ntmps25
    go_wp2_with fail
    refine (clone_own A0 c0 l0 _ (Kd.C_alloc HR.out _) hbig).mono ?_
    rintro e w1 ⟨v1, rfl, hown1, hB1⟩
    have hsz : (w.alloc (Obj.cells #[.int .i64 0, .string ⟨#[]⟩, .slice none 0 0, .int .i64 0] 26)).heap.size = w.heap.size + 1 := by simp
    rw [hsz] at hown1 hB1
    have H1 := Aside0.mk hown1
    have HB1 := Aside0.mk hB1
    have hs1 : w.heap.size + 1 ≤ w1.heap.size := by have := HB1.out.size; rw [hsz] at this; exact this
    have HS1 := Aside0.mk hs1
    clear hown1 hB1 hs1
    go_wp2_with fail
    refine (sort_own v1 l0 w1 H1.out HS1.out hbig).mono ?_
    rintro e w2 ⟨rfl, hown2, hB2, -⟩
    have H2 := Aside0.mk hown2
    have HB2 := Aside0.mk (HB1.out.trans hB2)
    have hs2 : w.heap.size + 1 ≤ w2.heap.size := Nat.le_trans HS1.out hB2.size
    have HS2 := Aside0.mk hs2
    clear hown2 hB2 hs2
    go_wp2_with fail
    refine (compact_own v1 (sortL l0) w2 H2.out HS2.out (by rw [sortL_length]; exact hbig)).mono ?_
    rintro e w3 ⟨v3, rfl, hown3, hB3, -, -⟩
    have HB3 := Aside0.mk (HB2.out.trans hB3)
    have hres : w3.heap[w.heap.size]? = some (.cells #[.int .i64 0, .string ⟨#[]⟩, .slice none 0 0, .int .i64 0] 26 (0, 0)) := by
      rw [HB3.out.block _ (by omega)]
      exact blk_new _ _
    have HRES := Aside0.mk hres
    have q0 : w3.cell? ⟨w.heap.size, 0, none⟩ = some (.int .i64 0) := by rw [Lib.cell_of_heap hres]; rfl
    have q1 : w3.cell? ⟨w.heap.size, 1, none⟩ = some (.string ⟨#[]⟩) := by rw [Lib.cell_of_heap hres]; rfl
    have q2 : w3.cell? ⟨w.heap.size, 2, none⟩ = some (.slice none 0 0) := by rw [Lib.cell_of_heap hres]; rfl
    have q3 : w3.cell? ⟨w.heap.size, 3, none⟩ = some (.int .i64 0) := by rw [Lib.cell_of_heap hres]; rfl
    have f0 := Lib.frozen_of_heap hres 0
    have f1 := Lib.frozen_of_heap hres 1
    have f2 := Lib.frozen_of_heap hres 2
    have f3 := Lib.frozen_of_heap hres 3
    obtain ⟨A3, c3, rfl, hc3⟩ := own_slice hown3
    have HRR := Aside0.mk (own_R hown3)
    have hl3 : (compL (sortL l0)).length ≤ 8796093022208 := by
      have := compL_length (sortL l0)
      rw [sortL_length] at this
      omega
    have h63 : ((compL (sortL l0)).length : Int) ≤ 9223372036854775807 := by omega
    have hc3' : ((compL (sortL l0)).length : Int) ≤ (c3 : Int) := by omega
    clear hown3 hB3 hres
    have u26 := Try.underlying26
    have u24 := Try.underlying24
    generalize hL : compL (sortL l0) = L at *
    go_wp2_with (go_at_call 39; go_in)
    refine bodyPost_ret (results_cell_row rfl _ _ w.heap.size 26 #[.int .i64 3, .string ⟨#[]⟩, .slice A3 L.length L.length, .int .i64 a1] (0, 0) _ rfl (by
      refine blk_put (cs := #[.int .i64 3, .string ⟨#[]⟩, .slice A3 L.length L.length, .int .i64 0]) ?_ 3 _ rfl
      refine blk_put (cs := #[.int .i64 3, .string ⟨#[]⟩, .slice none 0 0, .int .i64 0]) ?_ 2 _ rfl
      refine blk_put (cs := #[.int .i64 3, .string ⟨#[]⟩, .slice none 0 0, .int .i64 0]) ?_ 1 _ rfl
      exact blk_put (cs := #[.int .i64 0, .string ⟨#[]⟩, .slice none 0 0, .int .i64 0]) HRES.out 0 _ rfl) Try.underlying26 rfl (by kernel_rfl)) rfl ?_
    have HBw : Below w.heap.size w w3 := (below_alloc (Below.refl w.heap.size w) _).trans (HB3.out.mono (Nat.le_succ _))
    exact ⟨_, rfl, by rw [hL]; exact view4 HRR.out (Nat.lt_succ_self _) (Nat.le_refl _) _ _ _ _, (((HBw.setCell (p := ⟨w.heap.size, 0, none⟩) (Nat.le_refl _) _).setCell (p := ⟨w.heap.size, 1, none⟩) (Nat.le_refl _) _).setCell (p := ⟨w.heap.size, 2, none⟩) (Nat.le_refl _) _).setCell (p := ⟨w.heap.size, 3, none⟩) (Nat.le_refl _) _⟩
  · cases h

end Go.Proofs.Ytfpedicgeepikaa.G
