import Derived.Test.YtdjgiphipjejlaaGreatDoorProg
import Derived.Below
import Derived.Deep.Draws
import Derived.Deep.AppendLies
import Derived.Maps.AppendAt
import Derived.OwnWalk
import Derived.Laws.BytesArg
import Derived.Laws.MakeOwn
import Derived.Laws.OwnMore
import Derived.Deep.OwnRows
import Derived.Tactics
import Derived.Lib.ConvBytes
import Derived.Laws.Slices
import Derived.WalkKit
import Derived.KernelRfl
import Derived.RowKit3
import Derived.Deep.LoopGhost
import Derived.Deep.QuietTactic
import Derived.BigQuiet
import Derived.WideLaws
import Derived.Deep.DeepCutAuto
import Derived.Deep.CutBlock
import Derived.Deep.RegionHeld3
import Derived.Laws.Rows
import Derived.Lib.AppendStr
import Derived.ArgAppend
import Derived.Laws.IdiomCopy
import Derived.OrdersHeld
import Derived.Laws.BitsLemmas
import Derived.RowKit
import Derived.Test.YtdjgiphipjejlaaGreatDoorWWords
import Derived.Test.YtdjgiphipjejlaaGreatDoorWLast
import Derived.Test.YtdjgiphipjejlaaGreatDoorWTab
import Derived.Test.YtdjgiphipjejlaaGreatDoorWQPut
import Derived.Test.YtdjgiphipjejlaaGreatDoorWApart
import Derived.Test.YtdjgiphipjejlaaGreatDoorWArr
import Derived.Test.YtdjgiphipjejlaaGreatDoorWZeros
import Derived.Test.YtdjgiphipjejlaaGreatDoorWFoot
import Derived.Test.YtdjgiphipjejlaaGreatDoorWKept
import Derived.Test.YtdjgiphipjejlaaGreatDoorWShare
import Derived.Test.YtdjgiphipjejlaaGreatDoorWN
import Derived.Test.YtdjgiphipjejlaaGreatDoorWRepsOne
import Derived.Test.YtdjgiphipjejlaaGreatDoorWGuard
import Derived.Test.YtdjgiphipjejlaaGreatDoorWNEv
import Derived.Test.YtdjgiphipjejlaaGreatDoorWMore
import Derived.Test.YtdjgiphipjejlaaGreatDoorG1

namespace Go.Proofs.YtdjgiphipjejlaaGreatDoor.G
open Go.RowKit Go.Proofs.YtdjgiphipjejlaaGreatDoorW.PrintWords Go.Proofs.YtdjgiphipjejlaaGreatDoorW.PrintLast Go.Proofs.YtdjgiphipjejlaaGreatDoorW.PrintMore
attribute [local go_sem] max2_int min2_int max_two min_two max_three min_three max_four min_four
set_option linter.unusedVariables false
set_option linter.unusedSimpArgs false

/-! ### dec.digits -/
def digOk (s : ByteArray) : Bool := s.data.toList.all fun b => decide (48 ≤ b.toNat) && decide (b.toNat ≤ 57)
def digs (s : ByteArray) : List Int := s.data.toList.map fun b => (b.toNat : Int) - 48
def dec_digits.f (a0 : ByteArray) : Option (List Int × Bool) :=
  if a0.size ≤ 140737488351232 then (if digOk a0 = true then some (digs a0, true) else some ([], false)) else none
theorem digs_length (s : ByteArray) : (digs s).length = s.size := by simp [digs]
/-- A byte by its place. -/
def byt (s : ByteArray) (j : Nat) : Int := ((s.data.toList.getD j 0).toNat : Int)
theorem byt_range (s : ByteArray) (j : Nat) : 0 ≤ byt s j ∧ byt s j ≤ 255 := by
  unfold byt
  have := (s.data.toList.getD j 0).toNat_lt
  omega
theorem digs_getD (s : ByteArray) (j : Nat) (hj : j < s.size) : (digs s).getD j 0 = byt s j - 48 := by
  have hl : j < s.data.toList.length := by simpa using hj
  unfold digs byt
  rw [List.getD_eq_getElem?_getD, List.getElem?_map, List.getElem?_eq_getElem hl, List.getD_eq_getElem?_getD, List.getElem?_eq_getElem hl]
  rfl
theorem digOk_iff (s : ByteArray) : digOk s = true ↔ ∀ j, j < s.size → 48 ≤ byt s j ∧ byt s j ≤ 57 := by
  unfold digOk byt
  rw [List.all_eq_true]
  constructor
  · intro h j hj
    have hl : j < s.data.toList.length := by simpa using hj
    have := h _ (List.getElem_mem hl)
    rw [List.getD_eq_getElem?_getD, List.getElem?_eq_getElem hl]
    simp only [Bool.and_eq_true, decide_eq_true_eq] at this
    simp only [Option.getD_some]
    omega
  · intro h b hb
    obtain ⟨j, hj, rfl⟩ := List.getElem_of_mem hb
    have := h j (by simpa using hj)
    rw [List.getD_eq_getElem?_getD, List.getElem?_eq_getElem hj] at this
    simp only [Option.getD_some] at this
    simp only [Bool.and_eq_true, decide_eq_true_eq]
    omega
/-- After k rounds: the head has been turned into digits, the rest has not. -/
structure DigRel (s : ByteArray) (g k : Nat) (w wr : World) : Prop where
  done : ∀ j, j < k → wr.cell? ⟨g, j, none⟩ = some (.int .u8 (byt s j - 48))
  rest : ∀ j, k ≤ j → j < s.size → wr.cell? ⟨g, j, none⟩ = some (.int .u8 (byt s j))
  free : ∀ j, j < s.size → wr.frozen? ⟨g, j, none⟩ = false
  below : Below w.heap.size w wr
  ok : ∀ j, j < k → 48 ≤ byt s j ∧ byt s j ≤ 57
theorem DigRel.start (s : ByteArray) (w : World) : DigRel s w.heap.size 0 w (Lib.bytesWorld w 5 s) where
  done := fun j hj => absurd hj (Nat.not_lt_zero _)
  rest := fun j _ hj => Lib.bytesWorld_cell w 5 s j hj
  free := fun j hj => by
    have h1 : s.size ≤ (Lib.bytesCells w 5 s).size := by simp [Lib.bytesCells]
    simp [World.frozen?, Lib.bytesWorld_at_new]
    omega
  below := ⟨rfl, rfl, rfl, by rw [Lib.bytesWorld_size]; omega, fun k hk => Lib.bytesWorld_at_old w 5 s k hk⟩
  ok := fun j hj => absurd hj (Nat.not_lt_zero _)
theorem DigRel.step {s : ByteArray} {k : Nat} {w wr : World} (h : DigRel s w.heap.size k w wr) (hk : k < s.size) (h1 : 48 ≤ byt s k) (h2 : byt s k ≤ 57) : DigRel s w.heap.size (k + 1) w (wr.setCell ⟨w.heap.size, k, none⟩ (.int .u8 (byt s k - 48))) where
  done := fun j hj => by
    by_cases e : j = k
    · subst e
      exact World.cell?_setCell_same _ _ _ (h.rest j (Nat.le_refl _) hk)
    · rw [World.cell?_setCell_other _ _ _ _ (by intro e2; injection e2 with _ e2; omega)]
      exact h.done j (by omega)
  rest := fun j hj hs => by
    rw [World.cell?_setCell_other _ _ _ _ (by intro e2; injection e2 with _ e2; omega)]
    exact h.rest j (by omega) hs
  free := fun j hj => by rw [World.frozen?_setCell]; exact h.free j hj
  below := h.below.setCell (Nat.le_refl _) _
  ok := fun j hj => by
    by_cases e : j = k
    · subst e; exact ⟨h1, h2⟩
    · exact h.ok j (by omega)
theorem DigRel.view {s : ByteArray} {w wr : World} {c : Nat} (h : DigRel s w.heap.size s.size w wr) (hc : s.size ≤ c) (hs : s.size ≤ 140737488351232) :
    Kd.V (Kd.int .u8) 5 wr w.heap.size (fun k_ => (w.heap.size ≤ k_)) (.slice (some ⟨w.heap.size, 0, none⟩) s.size c) (digs s) := by
  refine ⟨some ⟨w.heap.size, 0, none⟩, c, by rw [digs_length], by rw [digs_length]; exact hc, ?_⟩
  intro W' hW
  refine Kd.C_of_reads (d := (0 : Int)) ⟨rfl, by rw [digs_length]; omega, fun hn => ⟨_, rfl, fun j hj => ?_⟩⟩
  rw [digs_length] at hj
  have h1 := h.done j hj
  rw [add_plain, digs_getD s j hj, ← h1]
  exact World.cell?_of_block (hW w.heap.size (Nat.le_refl _) (World.block_lt_of_cell? wr _ h1))
theorem V_nil {w' : World} {b : Nat} {ok : Nat → Prop} : Kd.V (Kd.int .u8) 5 w' b ok (.slice none 0 0) [] := ⟨none, 0, rfl, Nat.le_refl _, fun W' _ => Kd.C_of_reads (d := (0 : Int)) ⟨rfl, by simp, fun h => by simp at h⟩⟩
set_option maxHeartbeats 4000000 in
theorem dec_digits.calls (a0 : ByteArray) (r1 : List Int) (r2 : Bool) (w : World) (h : dec_digits.f a0 = some (r1, r2)) :
    Calls Tryz.prog 82 #[.string a0] w fun e w' => ∃ v0_ : Value, e = .returned (.tuple #[v0_, .bool r2]) ∧ Kd.V (Kd.int .u8) 5 w' w.heap.size (fun k_ => (w.heap.size ≤ k_)) v0_ r1 ∧ Below w.heap.size w w' := by
  unfold dec_digits.f at h
  split at h
  · rename_i hs
    have HH := Aside0.mk h
    clear h
    have hcv := fun w => Lib.run_convert_string_bytes (P := Tryz.prog) w 9 33 5 a0 Tryz.underlying9 Tryz.underlying33 Tryz.underlying5
    have hst := Aside0.mk (DigRel.start a0 w)
    go_enter Tryz.func82, Tryz.ntmps82
    go_wp2
    have hcap := grownCap_ge w a0.size 0 5
    generalize grownCap w a0.size 0 5 = cp at hcap ⊢
    generalize Lib.bytesWorld w 5 a0 = W0 at hst ⊢
    have HCAP := Aside0.mk hcap
    clear hcap hcv
    go_loopg [5, 6, 11] a0.size (fun gg v5 v6 v11 wr => ∃ kk : Nat, kk ≤ a0.size ∧ a0.size - kk ≤ gg ∧ v11 = .int .i64 kk ∧ Aside0 (DigRel a0 w.heap.size kk w wr))
    case atStart => exact ⟨0, Nat.zero_le _, by omega, rfl, hst⟩
    case round =>
      clear hst
      obtain ⟨kk, hkk, hg, rfl, A⟩ := hrel
      by_cases hlt : kk < a0.size
      · have hltz : (kk : Int) < (a0.size : Int) := by omega
        have hcell := A.out.rest kk (Nat.le_refl _) hlt
        have hfree := A.out.free kk hlt
        have hr := byt_range a0 kk
        generalize hy : byt a0 kk = y at hcell hr
        have B : Aside0 (byt a0 kk = y) := ⟨hy⟩
        clear hy
        by_cases h48 : y < 48
        · have hno : ¬ digOk a0 = true := fun hd => by
            have := (digOk_iff a0).1 hd kk hlt
            rw [B.out] at this
            omega
          have HH2 := HH.out
          rw [if_neg hno] at HH2
          simp only [Option.some.injEq, Prod.mk.injEq] at HH2
          obtain ⟨rfl, rfl⟩ := HH2
          clear hno
          go_wp2
          go_ret2
          exact ⟨_, rfl, V_nil, A.out.below⟩
        · by_cases h57 : 57 < y
          · have hno : ¬ digOk a0 = true := fun hd => by
              have := (digOk_iff a0).1 hd kk hlt
              rw [B.out] at this
              omega
            have HH2 := HH.out
            rw [if_neg hno] at HH2
            simp only [Option.some.injEq, Prod.mk.injEq] at HH2
            obtain ⟨rfl, rfl⟩ := HH2
            clear hno
            go_wp2
            go_ret2
            exact ⟨_, rfl, V_nil, A.out.below⟩
          · go_wp2
            go_roundg (a0.size - (kk + 1))
            case measure => omega
            case rel =>
              refine ⟨kk + 1, by omega, by omega, by go_num, ⟨?_⟩⟩
              have := A.out.step hlt (by rw [B.out]; omega) (by rw [B.out]; omega)
              rw [B.out] at this
              exact this
      · have hltz : ¬ (kk : Int) < (a0.size : Int) := by omega
        have : kk = a0.size := by omega
        subst this
        have hyes : digOk a0 = true := (digOk_iff a0).2 A.out.ok
        have HH2 := HH.out
        rw [if_pos hyes] at HH2
        simp only [Option.some.injEq, Prod.mk.injEq] at HH2
        obtain ⟨rfl, rfl⟩ := HH2
        clear hyes
        go_wp2
        go_ret2
        exact ⟨_, rfl, A.out.view HCAP.out hs, A.out.below⟩
  · cases h

end Go.Proofs.YtdjgiphipjejlaaGreatDoor.G
