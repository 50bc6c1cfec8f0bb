import Derived.Test.YtdjgiphipjejlaaGreatDoorProg
import Derived.Below
import Derived.Deep.Draws
import Derived.Deep.AppendLies
import Derived.Maps.AppendAt
import Derived.OwnWalk
import Derived.Laws.BytesArg
import Derived.Laws.MakeOwn
import Derived.Laws.OwnMore
import Derived.Deep.OwnRows
import Derived.Tactics
import Derived.Lib.ConvBytes
import Derived.Laws.Slices
import Derived.WalkKit
import Derived.KernelRfl
import Derived.RowKit3
import Derived.Deep.LoopGhost
import Derived.Deep.QuietTactic
import Derived.BigQuiet
import Derived.WideLaws
import Derived.Deep.DeepCutAuto
import Derived.Deep.CutBlock
import Derived.Deep.RegionHeld3
import Derived.Laws.Rows
import Derived.Lib.AppendStr
import Derived.ArgAppend
import Derived.Laws.IdiomCopy
import Derived.OrdersHeld
import Derived.Laws.BitsLemmas
import Derived.RowKit
import Derived.Test.YtdjgiphipjejlaaGreatDoorWWords
import Derived.Test.YtdjgiphipjejlaaGreatDoorWLast
import Derived.Test.YtdjgiphipjejlaaGreatDoorWTab
import Derived.Test.YtdjgiphipjejlaaGreatDoorWQPut
import Derived.Test.YtdjgiphipjejlaaGreatDoorWApart
import Derived.Test.YtdjgiphipjejlaaGreatDoorWArr
import Derived.Test.YtdjgiphipjejlaaGreatDoorWZeros
import Derived.Test.YtdjgiphipjejlaaGreatDoorWFoot
import Derived.Test.YtdjgiphipjejlaaGreatDoorWKept
import Derived.Test.YtdjgiphipjejlaaGreatDoorWShare
import Derived.Test.YtdjgiphipjejlaaGreatDoorWN
import Derived.Test.YtdjgiphipjejlaaGreatDoorWRepsOne
import Derived.Test.YtdjgiphipjejlaaGreatDoorWGuard
import Derived.Test.YtdjgiphipjejlaaGreatDoorWNEv
import Derived.Test.YtdjgiphipjejlaaGreatDoorWMore
import Derived.Test.YtdjgiphipjejlaaGreatDoorG5

namespace Go.Proofs.YtdjgiphipjejlaaGreatDoor.G
open Go.RowKit Go.Proofs.YtdjgiphipjejlaaGreatDoorW.PrintWords Go.Proofs.YtdjgiphipjejlaaGreatDoorW.PrintLast Go.Proofs.YtdjgiphipjejlaaGreatDoorW.PrintMore
attribute [local go_sem] max2_int min2_int max_two min_two max_three min_three max_four min_four
set_option linter.unusedVariables false
set_option linter.unusedSimpArgs false

/-! ### (Dec).Text -/
/-- The byte of a digit. -/
def dby (x : Int) : UInt8 := ((48 + x) % 256).toNat.toUInt8
/-- The first k digits' text; the point stands ahead of digit p. -/
def txt (l : List Int) (p : Int) : Nat → List UInt8
  | 0 => []
  | k + 1 => txt l p k ++ ((if 0 < k ∧ (k : Int) = p then [46] else []) ++ [dby (l.getD k 0)])
theorem txt_length (l : List Int) (p : Int) : ∀ k, (txt l p k).length ≤ 2 * k
  | 0 => by simp [txt]
  | k + 1 => by
    have := txt_length l p k
    simp only [txt, List.length_append, List.length_singleton]
    split <;> simp <;> omega
def sgn1 (b : Bool) : List UInt8 := if b = true then [45] else []
def dec_Dec_Text.f (a0_0 : Bool) (l0_1 : List Int) (a0_2 : Int) : Option ByteArray :=
  if l0_1.length ≤ 1048576 ∧ 0 ≤ a0_2 ∧ a0_2 ≤ l0_1.length then some ⟨(sgn1 a0_0 ++ txt l0_1 (l0_1.length - a0_2) l0_1.length).toArray⟩ else none
theorem byteCells_snoc (l : List UInt8) (x : Int) (h : 0 ≤ x ∧ x ≤ 255) : Lib.byteCells l ++ [.int .u8 x] = Lib.byteCells (l ++ [x.toNat.toUInt8]) := by
  simp only [Lib.byteCells, List.map_append, List.map_cons, List.map_nil]
  congr 3
  have : (x.toNat.toUInt8).toNat = x.toNat := by
    rw [Nat.toUInt8_eq, UInt8.toNat_ofNat']
    omega
  rw [this]
  omega
theorem isb_used {T e B b : Nat} {bs : List Value} {w : World} (h : Lib.BuilderAt T e B b (.pointer (some ⟨b, 0, none⟩)) bs w) : Lib.IsBuilder T e B b bs w := Or.inr h
theorem isb_below {B b : Nat} {bs : List Value} {w w' : World} (h : Lib.IsBuilder 67 5 B b bs w) (hb : Below w.heap.size w w') : Lib.IsBuilder 67 5 B b bs w' := by
  rcases h with h | h <;> (obtain ⟨h1, v, h2, h3, h4⟩ := h)
  · exact Or.inl ⟨h1, v, by rw [hb.block b (Array.getElem?_eq_some_iff.1 h2).1]; exact h2, pw_own_below h3 hb, h4⟩
  · exact Or.inr ⟨h1, v, by rw [hb.block b (Array.getElem?_eq_some_iff.1 h2).1]; exact h2, pw_own_below h3 hb, h4⟩
/-- After k rounds. -/
structure TxtRel (neg : Bool) (A : Option Addr) (c : Nat) (l : List Int) (s : Int) (k : Nat) (w wr : World) : Prop where
  bld : Lib.IsBuilder 67 5 (w.heap.size + 1) (w.heap.size + 1) (Lib.byteCells (sgn1 neg ++ txt l (l.length - s) k)) wr
  box : wr.heap[w.heap.size]? = some (.cells #[.bool neg, .slice A l.length c, .int .i64 s] 35 (0, 0))
  below : Below w.heap.size w wr
theorem TxtRel.lt {neg : Bool} {A : Option Addr} {c : Nat} {l : List Int} {s : Int} {k : Nat} {w wr : World} (h : TxtRel neg A c l s k w wr) : w.heap.size + 1 < wr.heap.size := by
  rcases h.bld with h | h <;> exact h.lt
theorem TxtRel.len {neg : Bool} {A : Option Addr} {c : Nat} {l : List Int} {s : Int} {k : Nat} {w wr : World} (h : TxtRel neg A c l s k w wr) (hk : k ≤ 1048576) : (Lib.byteCells (sgn1 neg ++ txt l (l.length - s) k)).length + 2 ≤ 140737488355328 := by
  rw [Lib.byteCells_length, List.length_append]
  have := txt_length l (l.length - s) k
  have : (sgn1 neg).length ≤ 1 := by unfold sgn1; split <;> simp
  omega
/-- A byte more, by a world that leaves what is below. -/
theorem TxtRel.step {neg : Bool} {A : Option Addr} {c : Nat} {l : List Int} {s : Int} {k k' : Nat} {w wr w1 : World} {bs : List Value} (h : TxtRel neg A c l s k w wr) (hb : Below (w.heap.size + 1) wr w1) (hbld : Lib.IsBuilder 67 5 (w.heap.size + 1) (w.heap.size + 1) bs w1) (hbs : bs = Lib.byteCells (sgn1 neg ++ txt l (l.length - s) k')) : TxtRel neg A c l s k' w w1 where
  bld := hbs ▸ hbld
  box := by rw [hb.block _ (by omega)]; exact h.box
  below := h.below.trans (hb.mono (by omega))
theorem TxtRel.two {neg : Bool} {A : Option Addr} {c : Nat} {l : List Int} {s : Int} {k : Nat} {w wr w1 w2 : World} {y : Int} (h : TxtRel neg A c l s k w wr) (hy : l.getD k 0 = y) (h0 : 0 < k) (he : ((k : Int) == (l.length : Int) - s) = true) (hb1 : Below (w.heap.size + 1) wr w1) (hb2 : Below (w.heap.size + 1) w1 w2)
    (h2 : Lib.BuilderAt 67 5 (w.heap.size + 1) (w.heap.size + 1) (.pointer (some ⟨w.heap.size + 1, 0, none⟩)) ((Lib.byteCells (sgn1 neg ++ txt l (l.length - s) k) ++ [.int .u8 46]) ++ [.int .u8 ((48 + y) % 256)]) w2) : TxtRel neg A c l s (k + 1) w w2 := by
  refine h.step (hb1.trans hb2) (isb_used h2) ?_
  have e1 : Lib.byteCells (sgn1 neg ++ txt l (l.length - s) k) ++ [.int .u8 46] = Lib.byteCells ((sgn1 neg ++ txt l (l.length - s) k) ++ [46]) := byteCells_snoc _ 46 (by omega)
  rw [e1, byteCells_snoc _ _ (by omega)]
  congr 1
  simp only [txt, hy]
  rw [if_pos ⟨h0, by simpa using he⟩]
  simp [dby]
theorem TxtRel.one {neg : Bool} {A : Option Addr} {c : Nat} {l : List Int} {s : Int} {k : Nat} {w wr w2 : World} {y : Int} (h : TxtRel neg A c l s k w wr) (hy : l.getD k 0 = y) (he : ¬ (0 < k ∧ (k : Int) = (l.length : Int) - s)) (hb1 : Below (w.heap.size + 1) wr w2)
    (h2 : Lib.BuilderAt 67 5 (w.heap.size + 1) (w.heap.size + 1) (.pointer (some ⟨w.heap.size + 1, 0, none⟩)) (Lib.byteCells (sgn1 neg ++ txt l (l.length - s) k) ++ [.int .u8 ((48 + y) % 256)]) w2) : TxtRel neg A c l s (k + 1) w w2 := by
  refine h.step hb1 (isb_used h2) ?_
  rw [byteCells_snoc _ _ (by omega)]
  congr 1
  simp only [txt, hy]
  rw [if_neg he]
  simp [dby]
theorem txt_start (neg : Bool) (A : Option Addr) (c : Nat) (l : List Int) (s : Int) (w : World) : Lib.IsBuilder 67 5 (w.heap.size + 1) (w.heap.size + 1) [] ((w.alloc (.cells #[.bool neg, .slice A l.length c, .int .i64 s] 35)).alloc (.cells #[.pointer none, .slice none 0 0] 67)) ∧ ((w.alloc (.cells #[.bool neg, .slice A l.length c, .int .i64 s] 35)).alloc (.cells #[.pointer none, .slice none 0 0] 67)).heap[w.heap.size]? = some (.cells #[.bool neg, .slice A l.length c, .int .i64 s] 35 (0, 0)) ∧ Below w.heap.size w ((w.alloc (.cells #[.bool neg, .slice A l.length c, .int .i64 s] 35)).alloc (.cells #[.pointer none, .slice none 0 0] 67)) ∧ w.heap.size + 1 ≤ ((w.alloc (.cells #[.bool neg, .slice A l.length c, .int .i64 s] 35)).alloc (.cells #[.pointer none, .slice none 0 0] 67)).heap.size := by
  refine ⟨Or.inl ⟨Nat.le_refl _, .slice none 0 0, ?_, ⟨rfl, Or.inl ⟨rfl, rfl⟩⟩, by simp [Value.ownBlock]⟩, ?_, ((Below.refl _ _).alloc (Nat.le_refl _) _).alloc (by simp) _, by simp⟩
  · have := heap_alloc_new (w.alloc (.cells #[.bool neg, .slice A l.length c, .int .i64 s] 35)) (.cells #[.pointer none, .slice none 0 0] 67)
    simpa using this
  · rw [Lib.alloc_old _ _ _ (by simp)]
    exact heap_alloc_new w _
set_option maxHeartbeats 4000000 in
theorem dec_Dec_Text.calls (a0_0 : Bool) (A0_1 : Option Addr) (c0_1 : Nat) (l0_1 : List Int) (a0_2 : Int) (r : ByteArray) (w : World) (hr0_1 : Kd.C (Kd.int .u8) w A0_1 l0_1.length l0_1) (hc0_1 : l0_1.length ≤ c0_1) (h : dec_Dec_Text.f a0_0 l0_1 a0_2 = some r) :
    Calls Tryz.prog 20 #[.agg #[.bool a0_0, .slice A0_1 l0_1.length c0_1, .int .i64 a0_2]] w fun e w' => e = .returned (.string r) ∧ Below w.heap.size w w' := by
  unfold dec_Dec_Text.f at h
  split at h
  · rename_i hg
    obtain ⟨hg1, hg2, hg3⟩ := hg
    have HH := Aside0.mk (Option.some.inj h)
    have HR := Aside0.mk hr0_1
    clear h hr0_1 hc0_1
    cases a0_0 with
    | false =>
      obtain ⟨s1, s2, s3, s4⟩ := txt_start false A0_1 c0_1 l0_1 a0_2 w
      have HT : Aside0 (TxtRel false A0_1 c0_1 l0_1 a0_2 0 w ((w.alloc (.cells #[.bool false, .slice A0_1 l0_1.length c0_1, .int .i64 a0_2] 35)).alloc (.cells #[.pointer none, .slice none 0 0] 67))) := ⟨⟨s1, s2, s3⟩⟩
      clear s1 s2 s3 s4
      go_enter Tryz.func20, Tryz.ntmps20
      go_wp2
      generalize (w.alloc (.cells #[.bool false, .slice A0_1 l0_1.length c0_1, .int .i64 a0_2] 35)).alloc (.cells #[.pointer none, .slice none 0 0] 67) = W0 at HT ⊢
      go_loopg [4, 5, 12] l0_1.length (fun gg v4 v5 v12 wr => ∃ kk : Nat, kk ≤ l0_1.length ∧ l0_1.length - kk ≤ gg ∧ v12 = .int .i64 kk ∧ Aside0 (TxtRel false A0_1 c0_1 l0_1 a0_2 kk w wr))
      case atStart => exact ⟨0, Nat.zero_le _, by omega, rfl, HT⟩
      case round =>
        clear HT
        obtain ⟨kk, hkk, hgg, rfl, T⟩ := hrel
        have HLT := Aside0.mk T.out.lt
        have HLE := Aside0.mk (T.out.len (by omega))
        by_cases hlt : kk < l0_1.length
        · have hltz : (kk : Int) < (l0_1.length : Int) := by omega
          obtain ⟨ad, rfl, hcell⟩ := C_cell (Kd.C_below HR.out T.out.below) kk hlt
          have hb1 : wr.cell? ⟨w.heap.size, 1, none⟩ = some (.slice (some ad) l0_1.length c0_1) := by rw [Lib.cell_of_heap T.out.box]; rfl
          have hb2 : wr.cell? ⟨w.heap.size, 2, none⟩ = some (.int .i64 a0_2) := by rw [Lib.cell_of_heap T.out.box]; rfl
          generalize hy : l0_1.getD kk 0 = y at hcell
          have B : Aside0 (l0_1.getD kk 0 = y) := ⟨hy⟩
          clear hy
          go_wp2_with fail
          · have h0 : 0 < kk := by assumption
            have he : ((kk : Int) == (l0_1.length : Int) - a0_2) = true := by assumption
            have H0 := Aside0.mk he
            clear he
            refine (WriteByte (w.heap.size + 1) (w.heap.size + 1) _ 46 wr T.out.bld (by have := HLE.out; omega) (by have := HLT.out; omega)).mono ?_
            rintro e w1 ⟨rfl, h1, hw1⟩
            have H1 := Aside0.mk h1
            have HW1 := Aside0.mk hw1
            clear h1 hw1
            go_wp2_with fail
            refine (WriteByte (w.heap.size + 1) (w.heap.size + 1) _ _ w1 (isb_used H1.out) (by have := HLE.out; simp only [List.length_append, List.length_singleton]; omega) (by have := HLT.out; have := HW1.out.size; omega)).mono ?_
            rintro e w2 ⟨rfl, h2, hw2⟩
            have H2 := Aside0.mk h2
            have HW2 := Aside0.mk hw2
            clear h2 hw2
            go_wp2
            go_roundg (l0_1.length - (kk + 1))
            case measure => omega
            case rel => exact ⟨kk + 1, by omega, by omega, by go_num, ⟨T.out.two B.out h0 H0.out HW1.out HW2.out H2.out⟩⟩
          · have he : ((kk : Int) == (l0_1.length : Int) - a0_2) = false := by assumption
            have H0 := Aside0.mk he
            clear he
            refine (WriteByte (w.heap.size + 1) (w.heap.size + 1) _ _ wr T.out.bld (by have := HLE.out; omega) (by have := HLT.out; omega)).mono ?_
            rintro e w1 ⟨rfl, h1, hw1⟩
            have H1 := Aside0.mk h1
            have HW1 := Aside0.mk hw1
            clear h1 hw1
            go_wp2
            go_roundg (l0_1.length - (kk + 1))
            case measure => omega
            case rel => exact ⟨kk + 1, by omega, by omega, by go_num, ⟨T.out.one B.out (fun h => by have := H0.out; rw [beq_eq_false_iff_ne] at this; exact this h.2) HW1.out H1.out⟩⟩
          · have h0 : ¬ 0 < kk := by assumption
            refine (WriteByte (w.heap.size + 1) (w.heap.size + 1) _ _ wr T.out.bld (by have := HLE.out; omega) (by have := HLT.out; omega)).mono ?_
            rintro e w1 ⟨rfl, h1, hw1⟩
            have H1 := Aside0.mk h1
            have HW1 := Aside0.mk hw1
            clear h1 hw1
            go_wp2
            go_roundg (l0_1.length - (kk + 1))
            case measure => omega
            case rel => exact ⟨kk + 1, by omega, by omega, by go_num, ⟨T.out.one B.out (fun h => h0 h.1) HW1.out H1.out⟩⟩
        · have hltz : ¬ (kk : Int) < (l0_1.length : Int) := by omega
          have : kk = l0_1.length := by omega
          subst this
          go_wp2_with fail
          refine (Builder_String_any (w.heap.size + 1) (w.heap.size + 1) _ wr T.out.bld (by have := HLT.out; omega)).mono ?_
          rintro e w1 ⟨rfl, hw1⟩
          have HW1 := Aside0.mk hw1
          clear hw1
          go_wp2
          go_ret
          exact ⟨by rw [← HH.out]; rfl, T.out.below.trans (HW1.out.mono (by omega))⟩
    | true =>
      have hS := Aside0.mk (txt_start true A0_1 c0_1 l0_1 a0_2 w)
      go_enter Tryz.func20, Tryz.ntmps20
      go_wp2_with fail
      generalize (w.alloc (.cells #[.bool true, .slice A0_1 l0_1.length c0_1, .int .i64 a0_2] 35)).alloc (.cells #[.pointer none, .slice none 0 0] 67) = W1 at hS ⊢
      refine (WriteByte (w.heap.size + 1) (w.heap.size + 1) _ 45 W1 hS.out.1 (by simp) hS.out.2.2.2).mono ?_
      rintro e W0 ⟨rfl, h1, hw1⟩
      have hbox : W0.heap[w.heap.size]? = some (.cells #[.bool true, .slice A0_1 l0_1.length c0_1, .int .i64 a0_2] 35 (0, 0)) := by rw [hw1.block _ (by omega)]; exact hS.out.2.1
      have HT : Aside0 (TxtRel true A0_1 c0_1 l0_1 a0_2 0 w W0) := ⟨⟨isb_used h1, hbox, hS.out.2.2.1.trans (hw1.mono (by omega))⟩⟩
      have hb1 : W0.cell? ⟨w.heap.size, 1, none⟩ = some (.slice A0_1 l0_1.length c0_1) := by rw [Lib.cell_of_heap hbox]; rfl
      clear h1 hw1 hS hbox
      go_wp2
      go_loopg [4, 5, 12] l0_1.length (fun gg v4 v5 v12 wr => ∃ kk : Nat, kk ≤ l0_1.length ∧ l0_1.length - kk ≤ gg ∧ v12 = .int .i64 kk ∧ Aside0 (TxtRel true A0_1 c0_1 l0_1 a0_2 kk w wr))
      case atStart => exact ⟨0, Nat.zero_le _, by omega, rfl, HT⟩
      case round =>
        clear HT
        obtain ⟨kk, hkk, hgg, rfl, T⟩ := hrel
        have HLT := Aside0.mk T.out.lt
        have HLE := Aside0.mk (T.out.len (by omega))
        by_cases hlt : kk < l0_1.length
        · have hltz : (kk : Int) < (l0_1.length : Int) := by omega
          obtain ⟨ad, rfl, hcell⟩ := C_cell (Kd.C_below HR.out T.out.below) kk hlt
          have hb1 : wr.cell? ⟨w.heap.size, 1, none⟩ = some (.slice (some ad) l0_1.length c0_1) := by rw [Lib.cell_of_heap T.out.box]; rfl
          have hb2 : wr.cell? ⟨w.heap.size, 2, none⟩ = some (.int .i64 a0_2) := by rw [Lib.cell_of_heap T.out.box]; rfl
          generalize hy : l0_1.getD kk 0 = y at hcell
          have B : Aside0 (l0_1.getD kk 0 = y) := ⟨hy⟩
          clear hy
          go_wp2_with fail
          · have h0 : 0 < kk := by assumption
            have he : ((kk : Int) == (l0_1.length : Int) - a0_2) = true := by assumption
            have H0 := Aside0.mk he
            clear he
            refine (WriteByte (w.heap.size + 1) (w.heap.size + 1) _ 46 wr T.out.bld (by have := HLE.out; omega) (by have := HLT.out; omega)).mono ?_
            rintro e w1 ⟨rfl, h1, hw1⟩
            have H1 := Aside0.mk h1
            have HW1 := Aside0.mk hw1
            clear h1 hw1
            go_wp2_with fail
            refine (WriteByte (w.heap.size + 1) (w.heap.size + 1) _ _ w1 (isb_used H1.out) (by have := HLE.out; simp only [List.length_append, List.length_singleton]; omega) (by have := HLT.out; have := HW1.out.size; omega)).mono ?_
            rintro e w2 ⟨rfl, h2, hw2⟩
            have H2 := Aside0.mk h2
            have HW2 := Aside0.mk hw2
            clear h2 hw2
            go_wp2
            go_roundg (l0_1.length - (kk + 1))
            case measure => omega
            case rel => exact ⟨kk + 1, by omega, by omega, by go_num, ⟨T.out.two B.out h0 H0.out HW1.out HW2.out H2.out⟩⟩
          · have he : ((kk : Int) == (l0_1.length : Int) - a0_2) = false := by assumption
            have H0 := Aside0.mk he
            clear he
            refine (WriteByte (w.heap.size + 1) (w.heap.size + 1) _ _ wr T.out.bld (by have := HLE.out; omega) (by have := HLT.out; omega)).mono ?_
            rintro e w1 ⟨rfl, h1, hw1⟩
            have H1 := Aside0.mk h1
            have HW1 := Aside0.mk hw1
            clear h1 hw1
            go_wp2
            go_roundg (l0_1.length - (kk + 1))
            case measure => omega
            case rel => exact ⟨kk + 1, by omega, by omega, by go_num, ⟨T.out.one B.out (fun h => by have := H0.out; rw [beq_eq_false_iff_ne] at this; exact this h.2) HW1.out H1.out⟩⟩
          · have h0 : ¬ 0 < kk := by assumption
            refine (WriteByte (w.heap.size + 1) (w.heap.size + 1) _ _ wr T.out.bld (by have := HLE.out; omega) (by have := HLT.out; omega)).mono ?_
            rintro e w1 ⟨rfl, h1, hw1⟩
            have H1 := Aside0.mk h1
            have HW1 := Aside0.mk hw1
            clear h1 hw1
            go_wp2
            go_roundg (l0_1.length - (kk + 1))
            case measure => omega
            case rel => exact ⟨kk + 1, by omega, by omega, by go_num, ⟨T.out.one B.out (fun h => h0 h.1) HW1.out H1.out⟩⟩
        · have hltz : ¬ (kk : Int) < (l0_1.length : Int) := by omega
          have : kk = l0_1.length := by omega
          subst this
          go_wp2_with fail
          refine (Builder_String_any (w.heap.size + 1) (w.heap.size + 1) _ wr T.out.bld (by have := HLT.out; omega)).mono ?_
          rintro e w1 ⟨rfl, hw1⟩
          have HW1 := Aside0.mk hw1
          clear hw1
          go_wp2
          go_ret
          exact ⟨by rw [← HH.out]; rfl, T.out.below.trans (HW1.out.mono (by omega))⟩
  · cases h

end Go.Proofs.YtdjgiphipjejlaaGreatDoor.G
