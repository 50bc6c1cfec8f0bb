import Derived.Test.YtdjgiphipjejlaaGreatDoorProg
import Derived.Below
import Derived.Deep.Draws
import Derived.Deep.AppendLies
import Derived.Maps.AppendAt
import Derived.OwnWalk
import Derived.Laws.BytesArg
import Derived.Laws.MakeOwn
import Derived.Laws.OwnMore
import Derived.Deep.OwnRows
import Derived.Tactics
import Derived.Lib.ConvBytes
import Derived.Laws.Slices
import Derived.WalkKit
import Derived.KernelRfl
import Derived.RowKit3
import Derived.Deep.LoopGhost
import Derived.Deep.QuietTactic
import Derived.BigQuiet
import Derived.WideLaws
import Derived.Deep.DeepCutAuto
import Derived.Deep.CutBlock
import Derived.Deep.RegionHeld3
import Derived.Laws.Rows
import Derived.Lib.AppendStr
import Derived.ArgAppend
import Derived.Laws.IdiomCopy
import Derived.OrdersHeld
import Derived.Laws.BitsLemmas
import Derived.RowKit
import Derived.Test.YtdjgiphipjejlaaGreatDoorWWords
import Derived.Test.YtdjgiphipjejlaaGreatDoorWLast
import Derived.Test.YtdjgiphipjejlaaGreatDoorWTab
import Derived.Test.YtdjgiphipjejlaaGreatDoorWQPut
import Derived.Test.YtdjgiphipjejlaaGreatDoorWApart
import Derived.Test.YtdjgiphipjejlaaGreatDoorWArr
import Derived.Test.YtdjgiphipjejlaaGreatDoorWZeros
import Derived.Test.YtdjgiphipjejlaaGreatDoorWFoot
import Derived.Test.YtdjgiphipjejlaaGreatDoorWKept
import Derived.Test.YtdjgiphipjejlaaGreatDoorWShare
import Derived.Test.YtdjgiphipjejlaaGreatDoorWN
import Derived.Test.YtdjgiphipjejlaaGreatDoorWRepsOne
import Derived.Test.YtdjgiphipjejlaaGreatDoorWGuard
import Derived.Test.YtdjgiphipjejlaaGreatDoorWNEv
import Derived.Test.YtdjgiphipjejlaaGreatDoorWMore
import Derived.Test.YtdjgiphipjejlaaGreatDoorG7
import Derived.Test.YtdjgiphipjejlaaGreatDoorG3
import Derived.Lib.Builder

namespace Go.Proofs.YtdjgiphipjejlaaGreatDoor.G
open Go.RowKit Go.Proofs.YtdjgiphipjejlaaGreatDoorW.PrintWords Go.Proofs.YtdjgiphipjejlaaGreatDoorW.PrintLast Go.Proofs.YtdjgiphipjejlaaGreatDoorW.PrintMore
attribute [local go_sem] max2_int min2_int max_two min_two max_three min_three max_four min_four
set_option linter.unusedVariables false
set_option linter.unusedSimpArgs false

/-! ### dec.canon -/
/-- The noughts behind the point are struck. -/
def trimT (l : List Int) : Nat → List Int × Nat
  | 0 => (l, 0)
  | s + 1 => if l.getD (l.length - 1) 0 = 0 then trimT (l.take (l.length - 1)) s else (l, s + 1)
/-- The noughts ahead of one digit before the point are struck. -/
def trimH (s : Nat) : List Int → List Int
  | [] => []
  | x :: t => if s + 1 < t.length + 1 ∧ x = 0 then trimH s t else x :: t
def padH (s : Nat) (l : List Int) : List Int := if l.length ≤ s then 0 :: l else l
def canonL (l : List Int) (s : Nat) : List Int × Nat := (padH (trimT l s).2 (trimH (trimT l s).2 (trimT l s).1), (trimT l s).2)
def dec_canon.f (a0 : Bool) (l1 : List Int) (a2 : Int) : Option (Bool × List Int × Int) :=
  if 0 < l1.length ∧ l1.length ≤ 1048576 ∧ 0 ≤ a2 ∧ a2 ≤ l1.length then
    some (a0 && !(canonL l1 a2.toNat).1.all (· == 0), (canonL l1 a2.toNat).1, ((canonL l1 a2.toNat).2 : Int)) else none
/-- A slice of bytes of the call's own, somewhere in its row. -/
structure LRow (w : World) (B g off n cap : Nat) (l : List Int) : Prop where
  len : l.length = n
  le : n ≤ cap
  ge : B ≤ g
  big : cap ≤ 9223372036854775807
  room : ∃ cur : Array Value, w.heap[g]? = some (.cells cur 5 (0, 0)) ∧ off + cap ≤ cur.size ∧ ∀ j, j < n → cur[off + j]? = some (.int .u8 (l.getD j 0))
namespace LRow
variable {w w' : World} {B g off n cap : Nat} {l : List Int}
theorem cell (h : LRow w B g off n cap l) (j : Nat) (hj : j < n) : w.cell? ⟨g, off + j, none⟩ = some (.int .u8 (l.getD j 0)) := by
  obtain ⟨cur, h1, h2, h3⟩ := h.room
  rw [Lib.cell_of_heap h1]
  exact h3 j hj
theorem some_cell (h : LRow w B g off n cap l) (j : Nat) (hj : j < cap) : (w.cell? ⟨g, off + j, none⟩).isSome = true := by
  obtain ⟨cur, h1, h2, h3⟩ := h.room
  rw [Lib.cell_of_heap h1, Array.getElem?_eq_getElem (by omega)]
  rfl
theorem free (h : LRow w B g off n cap l) (j : Nat) : w.frozen? ⟨g, j, none⟩ = false := by
  obtain ⟨cur, h1, h2, h3⟩ := h.room
  exact Lib.frozen_of_heap h1 j
theorem lt (h : LRow w B g off n cap l) : g < w.heap.size := by
  obtain ⟨cur, h1, h2, h3⟩ := h.room
  exact (Array.getElem?_eq_some_iff.1 h1).1
theorem move (h : LRow w B g off n cap l) (hb : w'.heap[g]? = w.heap[g]?) : LRow w' B g off n cap l :=
  ⟨h.len, h.le, h.ge, h.big, by
    obtain ⟨cur, h1, h2, h3⟩ := h.room
    exact ⟨cur, hb.trans h1, h2, h3⟩⟩
theorem below (h : LRow w B g off n cap l) (hb : Below w.heap.size w w') : LRow w' B g off n cap l := h.move (hb.block g h.lt)
theorem drew (h : LRow w B g off n cap l) : LRow w.drew B g off n cap l := h.move rfl
theorem alloc (h : LRow w B g off n cap l) (o : Obj) : LRow (w.alloc o) B g off n cap l := h.move (Lib.alloc_old w o g h.lt)
theorem reads (h : LRow w B g off n cap l) : Kd.C (Kd.int .u8) w (some ⟨g, off, none⟩) l.length l := by
  refine Kd.C_of_reads (d := (0 : Int)) ⟨rfl, by have := h.len; have := h.le; have := h.big; omega, fun _ => ⟨_, rfl, fun j hj => ?_⟩⟩
  rw [Addr.add_lit]
  exact h.cell j (by rw [← h.len]; exact hj)
theorem last (h : LRow w B g off (n + 1) cap l) : LRow w B g off n cap (l.take (l.length - 1)) where
  len := by have := h.len; simp; omega
  le := by have := h.le; omega
  ge := h.ge
  big := h.big
  room := by
    obtain ⟨cur, h1, h2, h3⟩ := h.room
    refine ⟨cur, h1, h2, fun j hj => ?_⟩
    rw [h3 j (by omega)]
    have hl := h.len
    rw [List.getD_eq_getElem?_getD, List.getD_eq_getElem?_getD, List.getElem?_take, if_pos (by omega)]
theorem tail {x : Int} (h : LRow w B g off (n + 1) cap (x :: l)) : LRow w B g (off + 1) n (cap - 1) l where
  len := by have := h.len; simpa using this
  le := by have := h.le; omega
  ge := h.ge
  big := by have := h.big; omega
  room := by
    obtain ⟨cur, h1, h2, h3⟩ := h.room
    have hle := h.le
    refine ⟨cur, h1, by omega, fun j hj => ?_⟩
    have := h3 (j + 1) (by omega)
    rw [List.getD_cons_succ] at this
    rw [← this]
    congr 1
    omega
/-- Out of an owned row that holds something. -/
theorem ofR {v : Value} {ok : Nat → Prop} (h : Kd.R (Kd.int .u8) 5 w B ok v l) (h0 : 0 < l.length) : ∃ g cap, v = .slice (some ⟨g, 0, none⟩) l.length cap ∧ LRow w B g 0 l.length cap l := by
  have ho := Kd.own_of_R (h1 := fun _ => rfl) h
  rcases ho.2 with ⟨_, h2⟩ | ⟨g, cap, cur, hv, h3, h4, h5, h6, h7, h8⟩
  · omega
  · refine ⟨g, cap, hv, rfl, h5, h3, by simp only [maxLen] at h6; omega, cur, h4, by omega, fun j hj => ?_⟩
    rw [Nat.zero_add]
    have e : cur[j]? = (cur.toList.take (l.length * 1))[j]? := by
      rw [List.getElem?_take, if_pos (by omega)]
      simp
    rw [e, h8, encs_map, List.getElem?_map, List.getD_eq_getElem?_getD, List.getElem?_eq_getElem hj]
    rfl
end LRow
open Go.Lib Go.Proofs in
theorem setCells_heap (g : Nat) (t : TypeId) : ∀ (vs : List Value) (o : Nat) (w : World) (cur : Array Value), w.heap[g]? = some (.cells cur t (0, 0)) → o + vs.length ≤ cur.size →
    ∃ cur' : Array Value, (w.setCells g o vs).heap[g]? = some (.cells cur' t (0, 0)) ∧ cur'.size = cur.size ∧ ∀ j, cur'[j]? = if o ≤ j ∧ j < o + vs.length then vs[j - o]? else cur[j]?
  | [], o, w, cur, h, _ => ⟨cur, h, rfl, fun j => by rw [if_neg (by simp only [List.length_nil]; omega)]⟩
  | v :: r, o, w, cur, h, hs => by
    have h1 := heap_setCell_same w g o cur t v h
    simp only [List.length_cons] at hs
    obtain ⟨cur', h2, h3, h4⟩ := setCells_heap g t r (o + 1) (w.setCell ⟨g, o, none⟩ v) _ h1 (by simp; omega)
    refine ⟨cur', h2, by rw [h3]; simp, fun j => ?_⟩
    rw [h4 j]
    simp only [List.length_cons]
    by_cases e1 : o + 1 ≤ j ∧ j < o + 1 + r.length
    · rw [if_pos e1, if_pos (by omega)]
      obtain ⟨k, rfl⟩ : ∃ k, j = o + 1 + k := ⟨j - (o + 1), by omega⟩
      rw [show o + 1 + k - (o + 1) = k by omega, show o + 1 + k - o = k + 1 by omega]
      rfl
    · rw [if_neg e1]
      by_cases e2 : j = o
      · subst e2
        rw [if_pos (by omega), Nat.sub_self, Array.getElem?_setIfInBounds_self_of_lt (by omega)]
        rfl
      · rw [if_neg (by omega), Array.getElem?_setIfInBounds_ne (by omega)]
theorem setCells_below (B g : Nat) (hB : B ≤ g) : ∀ (vs : List Value) (o : Nat) (w0 w : World), Below B w0 w → Below B w0 (w.setCells g o vs)
  | [], _, _, _, h => h
  | v :: r, o, w0, w, h => setCells_below B g hB r (o + 1) w0 _ (h.setCell (p := ⟨g, o, none⟩) hB v)
theorem dig_get {l : List Int} {j : Nat} {v : Value} (h : (l.map (Value.int .u8))[j]? = some v) : j < l.length ∧ v = .int .u8 (l.getD j 0) := by
  rw [List.getElem?_map] at h
  obtain ⟨x, hx, rfl⟩ := Option.map_eq_some_iff.1 h
  obtain ⟨hl, hx'⟩ := List.getElem?_eq_some_iff.1 hx
  exact ⟨hl, by rw [List.getD_eq_getElem?_getD, hx]; rfl⟩
set_option maxHeartbeats 2000000 in
theorem ins0 (W : World) (B g off n cap : Nat) (l : List Int) (h : LRow W B g off n cap l) (h0 : 0 < cap) (hn : n ≤ 1048576) (hBW : B ≤ W.heap.size) :
    Calls Tryz.prog 107 #[.slice (some ⟨g, off, none⟩) n cap, .int .i64 0, .slice (some ⟨W.heap.size, 0, none⟩) 1 1] (W.alloc (.cells #[.int .u8 0] 5)) fun e w' =>
      ∃ g' off' cap', e = .returned (.slice (some ⟨g', off', none⟩) (n + 1) cap') ∧ LRow w' B g' off' (n + 1) cap' (0 :: l) ∧ 0 < cap' ∧ Below B W w' := by
  have hA := h.alloc (.cells #[.int .u8 0] 5)
  have hvb : W.heap.size ≠ g := by have := h.lt; omega
  have hvs : ∀ j v, ([Value.int .u8 0] : List Value)[j]? = some v → (W.alloc (.cells #[.int .u8 0] 5)).cell? ⟨W.heap.size, 0 + j, none⟩ = some v := fun j v hj => by
    match j, hj with
    | 0, hj =>
      simp at hj
      subst hj
      rw [Lib.cell_of_heap (heap_alloc_new W _)]
      rfl
  have h1v : ∀ v ∈ ([Value.int .u8 0] : List Value), v.oneCell' = true := fun v hv => by
    simp at hv
    subst hv
    rfl
  have hcs : ∀ j v, (l.map (Value.int .u8))[j]? = some v → (W.alloc (.cells #[.int .u8 0] 5)).cell? ⟨g, off + j, none⟩ = some v := fun j v hj => by
    obtain ⟨hj1, rfl⟩ := dig_get hj
    exact hA.cell j (by rw [← h.len]; exact hj1)
  have h1c : ∀ v ∈ l.map (Value.int .u8), v.oneCell' = true := fun v hv => by
    obtain ⟨x, _, rfl⟩ := List.mem_map.1 hv
    rfl
  have hBa : Below B W (W.alloc (.cells #[.int .u8 0] 5)) := (Below.refl _ _).alloc hBW _
  obtain ⟨cur, hc1, hc2, hc3⟩ := hA.room
  have hle := h.le
  have hlen := h.len
  rcases Nat.eq_zero_or_pos n with hz | hz
  · subst hz
    refine (ins_end g off 0 cap W.heap.size 0 1 1 [.int .u8 0] (W.alloc (.cells #[.int .u8 0] 5)) (by omega) (by omega) h.big rfl (fun j hj => hA.some_cell j (by omega)) (fun j hj => hA.free _) hvs h1v).mono ?_
    rintro e w' ⟨rfl, rfl⟩
    obtain ⟨cur', d1, d2, d3⟩ := setCells_heap g 5 [.int .u8 0] (off + 0) _ cur hc1 (by simp; omega)
    refine ⟨g, off, cap, by rw [Nat.zero_add], ⟨by simp [hlen], by omega, h.ge, h.big, cur', d1, by omega, fun j hj => ?_⟩, h0, setCells_below B g h.ge _ _ _ _ hBa⟩
    obtain rfl : j = 0 := by omega
    rw [d3, if_pos (by simp)]
    simp
  · by_cases hroom : n + 1 ≤ cap
    · have hsa : (W.alloc (.cells #[.int .u8 0] 5)).shape? W.heap.size = some (5, 1) := by
        have := heap_alloc_new W (.cells #[.int .u8 0] 5)
        simp only [World.shape?, this]
        rfl
      have hsb : (W.alloc (.cells #[.int .u8 0] 5)).shape? g = some (5, cur.size) := by
        simp only [World.shape?, hc1]
      have hfa : ∀ j, (W.alloc (.cells #[.int .u8 0] 5)).frozen? ⟨W.heap.size, j, none⟩ = false := fun j => Lib.frozen_of_heap (heap_alloc_new W _) j
      refine (ins_shift g off n cap 0 W.heap.size 0 1 1 (l.map (Value.int .u8)) [.int .u8 0] (W.alloc (.cells #[.int .u8 0] 5)) hz (by omega) hroom h.big hvb (by simp [hlen]) rfl hcs (fun j hj => hA.some_cell j (by omega)) (fun j hj => hA.free _) hvs h1c h1v 5 5 1 cur.size hsa hsb (by omega) (hfa 0) (hfa 1)).mono ?_
      rintro e w' ⟨rfl, rfl⟩
      obtain ⟨cur1, d1, d2, d3⟩ := setCells_heap g 5 ((l.map (Value.int .u8)).drop 0) (off + (0 + 1)) (W.alloc (.cells #[.int .u8 0] 5)).drew cur hc1 (by simp; omega)
      obtain ⟨cur2, e1, e2, e3⟩ := setCells_heap g 5 [.int .u8 0] (off + 0) _ cur1 d1 (by simp; omega)
      refine ⟨g, off, cap, rfl, ⟨by simp [hlen], by omega, h.ge, h.big, cur2, e1, by omega, fun j hj => ?_⟩, h0, setCells_below B g h.ge _ _ _ _ (setCells_below B g h.ge _ _ _ _ hBa.drew)⟩
      rw [e3]
      by_cases hj0 : j = 0
      · subst hj0
        rw [if_pos (by simp)]
        simp
      · rw [if_neg (by simp; omega), d3, if_pos (by simp; omega)]
        obtain ⟨k, rfl⟩ : ∃ k, j = k + 1 := ⟨j - 1, by omega⟩
        rw [show off + (k + 1) - (off + (0 + 1)) = k by omega, List.drop_zero, List.getElem?_map, List.getD_cons_succ, List.getD_eq_getElem?_getD, List.getElem?_eq_getElem (by omega)]
        rfl
    · refine (ins_grow g off n cap 0 W.heap.size 0 1 1 (l.map (Value.int .u8)) [.int .u8 0] (W.alloc (.cells #[.int .u8 0] 5)) hz (by omega) hle (by omega) (by omega) (by simp [hlen]) rfl hcs hvs h1c h1v).mono ?_
      rintro e w' ⟨rfl, rfl⟩
      have hG := grownCap_ge (W.alloc (.cells #[.int .u8 0] 5)) (n + 1) cap 5
      have hG2 := grownCap_le_maxLen (W.alloc (.cells #[.int .u8 0] 5)) (n + 1) cap 5 (by simp only [maxLen]; omega)
      simp only [maxLen] at hG2
      generalize grownCap (W.alloc (.cells #[.int .u8 0] 5)) (n + 1) cap 5 = G at hG hG2 ⊢
      generalize hROW : (((l.map (Value.int .u8)).take 0).toArray ++ Builtin.zeroCells (Value.int .u8 0).cells (n + 1 - 0) ++ Builtin.zeroCells (Value.int .u8 0).cells (G - (n + 1))) = ROW
      have hRS : ROW.size = G := by
        rw [← hROW]
        simp [Builtin.zeroCells, Value.cells]
        omega
      generalize hW1 : W.alloc (.cells #[.int .u8 0] 5) = W1 at *
      obtain ⟨cur1, d1, d2, d3⟩ := setCells_heap W1.heap.size 5 [.int .u8 0] 0 (W1.alloc (.cells ROW 5)).drew ROW (heap_alloc_new W1 _) (by simp; omega)
      obtain ⟨cur2, e1, e2, e3⟩ := setCells_heap W1.heap.size 5 ((l.map (Value.int .u8)).drop 0) (0 + 1) ((W1.alloc (.cells ROW 5)).drew.setCells W1.heap.size 0 [.int .u8 0]).drew cur1 d1 (by simp; omega)
      have hsz := hBa.size
      refine ⟨W1.heap.size, 0, G, rfl, ⟨by simp [hlen], hG, by omega, by omega, cur2, e1, by omega, fun j hj => ?_⟩, by omega, setCells_below B _ (by omega) _ _ _ _ (setCells_below B _ (by omega) _ _ _ _ (hBa.alloc (by omega) _).drew).drew⟩
      rw [e3]
      by_cases hj0 : j = 0
      · subst hj0
        rw [if_neg (by simp), d3, if_pos (by simp)]
        simp
      · rw [if_pos (by simp; omega)]
        obtain ⟨k, rfl⟩ : ∃ k, j = k + 1 := ⟨j - 1, by omega⟩
        rw [show 0 + (k + 1) - (0 + 1) = k by omega, List.drop_zero, List.getElem?_map, List.getD_cons_succ, List.getD_eq_getElem?_getD, List.getElem?_eq_getElem (by omega)]
        rfl
theorem trimT_len (l : List Int) (s : Nat) (hs : s ≤ l.length) : (trimT l s).1.length ≤ l.length ∧ (trimT l s).2 ≤ s ∧ (trimT l s).2 + l.length = (trimT l s).1.length + s := by
  induction s generalizing l with
  | zero => simp [trimT]
  | succ s ih =>
    simp only [trimT]
    split
    · have := ih (l.take (l.length - 1)) (by simp; omega)
      simp only [List.length_take] at this
      omega
    · simp only []
      omega
theorem trimH_len (s : Nat) : ∀ l : List Int, s ≤ l.length → s ≤ (trimH s l).length
  | [], h => h
  | x :: t, h => by
    simp only [trimH]
    split
    · exact trimH_len s t (by omega)
    · exact h
theorem fin_view {w w3 : World} {A : Option Addr} {c base : Nat} {l : List Int} {ok : Nat → Prop} (hV : Kd.R (Kd.int .u8) 5 w3 base ok (.slice A l.length c) l) (hb : w.heap.size < base) (u0 u1 u2 : Value) :
    Kd.V (Kd.int .u8) 5 (((w3.setCell ⟨w.heap.size, 0, none⟩ u0).setCell ⟨w.heap.size, 1, none⟩ u1).setCell ⟨w.heap.size, 2, none⟩ u2) w.heap.size (fun k_ => w.heap.size ≤ k_) (.slice A l.length l.length) l := by
  have h1 := (Kd.V_at (Kd.R_V (base' := 0) (Kd.R_bound hV))).2.2
  refine Kd.V_mk (Nat.le_refl _) (Kd.F_mono (ok := fun k => base ≤ k) ?_ (fun k hk => by omega))
  exact Kd.F_far (p := ⟨w.heap.size, 2, none⟩) (Kd.F_far (p := ⟨w.heap.size, 1, none⟩) (Kd.F_far (p := ⟨w.heap.size, 0, none⟩) (Kd.F_mono h1 (fun k hk => hk.2.1)) (fun k hk => by simp only; omega) u0) (fun k hk => by simp only; omega) u1) (fun k hk => by simp only; omega) u2
/-- What the first two loops keep. -/
structure CRel (w : World) (B g off n cap : Nat) (l : List Int) (l0 : List Int) (wr : World) : Prop where
  row : LRow wr B g off n cap l
  below : Below w.heap.size w wr
  res : wr.heap[w.heap.size]? = some (.cells #[.bool false, .slice none 0 0, .int .i64 0] 35 (0, 0))
  short : n ≤ l0.length
  pos : 0 < cap
set_option maxHeartbeats 8000000 in
set_option maxRecDepth 100000 in
theorem dec_canon.calls (a0 : Bool) (A1 : Option Addr) (c1 : Nat) (l1 : List Int) (a2 : Int) (r1 : Bool) (r2 : List Int) (r3 : Int) (w : World) (hr1 : Kd.C (Kd.int .u8) w A1 l1.length l1) (hc1 : l1.length ≤ c1) (h : dec_canon.f a0 l1 a2 = some (r1, r2, r3)) :
    Calls Tryz.prog 83 #[.bool a0, .slice A1 l1.length c1, .int .i64 a2] w fun e w' => ∃ v1_ : Value, e = .returned (.agg #[.bool r1, v1_, .int .i64 r3]) ∧ Kd.V (Kd.int .u8) 5 w' w.heap.size (fun k_ => (w.heap.size ≤ k_)) v1_ r2 ∧ Below w.heap.size w w' := by
  unfold dec_canon.f at h
  split at h
  · rename_i hg
    obtain ⟨hg1, hg2, hg3, hg4⟩ := hg
    simp only [Option.some.injEq, Prod.mk.injEq] at h
    have HH := Aside0.mk h
    clear h
    obtain ⟨s0, rfl⟩ := Int.eq_ofNat_of_zero_le hg3
    rw [Int.toNat_natCast] at HH
    have HR := Aside0.mk hr1
    have HC := Aside0.mk hc1
    have hs0 : s0 ≤ l1.length := by omega
    have hf1 : slices_Clone_byte_byte.f l1 = some l1 := by unfold slices_Clone_byte_byte.f; rw [if_pos (by omega)]
    have HF1 := Aside0.mk hf1
    have HT := Aside0.mk (trimT_len l1 s0 hs0)
    clear hr1 hc1 hf1 hg3 hg4
    go_enter Tryz.func83, Tryz.ntmps83
    go_wp2_with fail
    refine (slices_Clone_byte_byte.calls A1 c1 l1 l1 _ (Kd.C_below HR.out ((Below.refl _ _).alloc (Nat.le_refl _) _)) HC.out HF1.out).mono ?_
    rintro e W0 ⟨v0, rfl, hR, hB0⟩
    obtain ⟨g0, cap0, rfl, hrow⟩ := LRow.ofR hR hg1
    have hres : W0.heap[w.heap.size]? = some (.cells #[.bool false, .slice none 0 0, .int .i64 0] 35 (0, 0)) := by
      rw [hB0.block _ (by simp)]
      exact heap_alloc_new w _
    have hst : Aside0 (CRel w (w.heap.size + 1) g0 0 l1.length cap0 l1 l1 W0) := ⟨⟨by simpa using hrow, ((Below.refl _ _).alloc (Nat.le_refl _) _).trans (hB0.mono (by simp)), hres, Nat.le_refl _, by have := hrow.le; omega⟩⟩
    clear hR hB0 hrow hres
    go_upto_block 0 with (fail)
    go_cut [1, 2] (fun v1 v2 wc => ∃ (g off n cap s : Nat) (l : List Int), v1 = .slice (some ⟨g, off, none⟩) n cap ∧ v2 = .int .i64 (s : Int) ∧ Aside0 (CRel w (w.heap.size + 1) g off n cap l l1 wc) ∧ Aside0 ((l, s) = trimT l1 s0))
    case first =>
      go_wp2
      go_loopg [1, 2] s0 (fun gg v1 v2 wr => ∃ (g off n cap s : Nat) (l : List Int), s ≤ gg ∧ v1 = .slice (some ⟨g, off, none⟩) n cap ∧ v2 = .int .i64 (s : Int) ∧ Aside0 (CRel w (w.heap.size + 1) g off n cap l l1 wr) ∧ Aside0 (trimT l s = trimT l1 s0) ∧ Aside0 (s ≤ n))
      case atStart => exact ⟨g0, 0, l1.length, cap0, s0, l1, Nat.le_refl _, rfl, rfl, hst, ⟨rfl⟩, ⟨hs0⟩⟩
      case round =>
        clear hst
        obtain ⟨g, off, n, cap, s, l, hgg, rfl, rfl, C, E, N⟩ := hrel
        cases s with
        | zero =>
          have e0 : ((0 : Nat) : Int) = 0 := rfl
          simp only [e0]
          clear e0
          go_wp2
          go_meet
          case rel => exact ⟨g, off, n, cap, 0, l, rfl, rfl, C, ⟨by rw [← E.out]; rfl⟩⟩
        | succ s =>
          obtain ⟨m, rfl⟩ : ∃ m, n = m + 1 := ⟨n - 1, by have := N.out; omega⟩
          have hcell := C.out.row.cell m (by omega)
          generalize hy : l.getD m 0 = y at hcell
          have B : Aside0 (l.getD m 0 = y) := ⟨hy⟩
          have hm63 : m + 1 ≤ 9223372036854775807 := by have := C.out.row.le; have := C.out.row.big; omega
          have hmc : m + 1 ≤ cap := C.out.row.le
          have hsm : (s : Int) ≤ 9223372036854775806 := by have := N.out; omega
          have hl : Aside0 (l.length - 1 = m) := ⟨by have := C.out.row.len; omega⟩
          clear hy
          by_cases h0 : y = 0
          · subst h0
            go_wp2
            go_roundg s
            case measure => omega
            case rel => exact ⟨g, off, m, cap, s, l.take (l.length - 1), Nat.le_refl _, rfl, by go_num, ⟨C.out.row.last, C.out.below, C.out.res, by have := C.out.short; omega, C.out.pos⟩, ⟨by rw [← E.out]; simp only [trimT]; rw [if_pos (by rw [hl.out, B.out])]⟩, ⟨by have := N.out; omega⟩⟩
          · go_wp2
            go_meet
            case rel => exact ⟨g, off, m + 1, cap, s + 1, l, rfl, rfl, C, ⟨by rw [← E.out]; simp only [trimT]; rw [if_neg (by rw [hl.out, B.out]; exact h0)]⟩⟩
    case rest =>
      clear hst
      obtain ⟨g, off, n, cap, s, l, rfl, rfl, C, E⟩ := hcut
      have hsl : s ≤ n ∧ s ≤ 1048576 := by
        have h1 := HT.out
        rw [← E.out] at h1
        have h2 := C.out.row.len
        simp only at h1
        omega
      go_upto_block 2 with (fail)
      go_cut [1] (fun v1 wc => ∃ (g off n cap : Nat) (l2 : List Int), v1 = .slice (some ⟨g, off, none⟩) n cap ∧ Aside0 (CRel w (w.heap.size + 1) g off n cap l2 l1 wc) ∧ Aside0 (l2 = trimH s l))
      case first =>
        go_wp2
        go_loopg [1] l1.length (fun gg v1 wr => ∃ (g off n cap : Nat) (l2 : List Int), n ≤ gg ∧ v1 = .slice (some ⟨g, off, none⟩) n cap ∧ Aside0 (CRel w (w.heap.size + 1) g off n cap l2 l1 wr) ∧ Aside0 (trimH s l2 = trimH s l))
        case atStart => exact ⟨g, off, n, cap, l, C.out.short, rfl, C, ⟨rfl⟩⟩
        case round =>
          clear C
          obtain ⟨g, off, n, cap, l2, hgg, rfl, C, E2⟩ := hrel
          have hshort := C.out.short
          have hs1 : (s : Int) + 1 ≤ 1048577 := by omega
          by_cases hlt : s + 1 < n
          · obtain ⟨m, rfl⟩ : ∃ m, n = m + 1 := ⟨n - 1, by omega⟩
            have hcap : ¬ cap = 1 := by have := C.out.row.le; omega
            have hm63 : m + 1 ≤ 9223372036854775807 := by have := C.out.row.le; have := C.out.row.big; omega
            have hmc : m + 1 ≤ cap := C.out.row.le
            cases l2 with
            | nil =>
              have := C.out.row.len
              simp at this
            | cons x t2 =>
              have hl := Aside0.mk C.out.row.len
              have hcell := C.out.row.cell 0 (by omega)
              rw [List.getD_cons_zero] at hcell
              simp only [Nat.add_zero] at hcell
              have hlt' : (s : Int) + 1 < (m : Int) + 1 := by omega
              have HM : Aside0 (m + 1 ≤ gk) := ⟨hgg⟩
              clear hlt hshort hgg
              by_cases h0 : x = 0
              · subst h0
                go_wp2
                go_roundg m
                case measure => have := HM.out; omega
                case rel => exact ⟨g, off + 1, m, cap - 1, t2, Nat.le_refl _, rfl, ⟨C.out.row.tail, C.out.below, C.out.res, by have := C.out.short; omega, by have := C.out.row.le; omega⟩, ⟨by rw [← E2.out]; simp only [trimH]; rw [if_pos ⟨by have := hl.out; simp only [List.length_cons] at this; omega, trivial⟩]⟩⟩
              · have hb : (x == 0) = false := by simpa using h0
                have H0 := Aside0.mk h0
                clear h0
                go_wp2
                go_meet
                case rel => exact ⟨g, off, m + 1, cap, x :: t2, rfl, C, ⟨by rw [← E2.out]; simp only [trimH]; rw [if_neg (fun h => H0.out h.2)]⟩⟩
          · have hlt' : ¬ (s : Int) + 1 < (n : Int) := by omega
            have HL := Aside0.mk hlt
            clear hlt
            go_wp2
            go_meet
            case rel => exact ⟨g, off, n, cap, l2, rfl, C, ⟨by
              rw [← E2.out]
              cases l2 with
              | nil => rfl
              | cons x t2 =>
                have := C.out.row.len
                simp only [List.length_cons] at this
                have := HL.out
                simp only [trimH]
                rw [if_neg (fun h => by omega)]⟩⟩
      case rest =>
        obtain ⟨g2, off2, n2, cap2, l2, rfl, C2, E2⟩ := hcut
        have hs2 : s ≤ n2 := by
          have h1 := trimH_len s l (by rw [C.out.row.len]; exact hsl.1)
          rw [← E2.out, C2.out.row.len] at h1
          exact h1
        have HS := Aside0.mk hsl
        have HS2 := Aside0.mk hs2
        clear C hsl hs2
        go_wp2
        go_loopg [1] 1 (fun gg v1 wr => ∃ (g off n cap : Nat) (l3 : List Int), v1 = .slice (some ⟨g, off, none⟩) n cap ∧ Aside0 (LRow wr (w.heap.size + 1) g off n cap l3 ∧ 0 < cap ∧ n ≤ 1048577) ∧ Aside0 (Below w.heap.size w wr) ∧ Aside0 (wr.heap[w.heap.size]? = some (.cells #[.bool false, .slice none 0 0, .int .i64 0] 35 (0, 0))) ∧ Aside0 (padH s l3 = padH s l2) ∧ Aside0 (s ≤ n ∧ (n ≤ s → 1 ≤ gg)))
        case atStart => exact ⟨g2, off2, n2, cap2, l2, rfl, ⟨C2.out.row, C2.out.pos, by have := C2.out.short; omega⟩, ⟨C2.out.below⟩, ⟨C2.out.res⟩, ⟨rfl⟩, ⟨HS2.out, fun _ => Nat.le_refl _⟩⟩
        case round =>
          have HSH := Aside0.mk C2.out.short
          clear C2
          obtain ⟨g, off, n, cap, l3, rfl, C, HB, RES, E3, N⟩ := hrel
          by_cases hle : n ≤ s
          · have hle' : (n : Int) ≤ (s : Int) := by omega
            have HLE := Aside0.mk hle
            clear hle
            go_wp2_with fail
            refine (ins0 wr (w.heap.size + 1) g off n cap l3 C.out.1 C.out.2.1 (by have := HS.out.2; have := HLE.out; omega) (by have := (Array.getElem?_eq_some_iff.1 RES.out).1; omega)).mono ?_
            rintro e w2 ⟨g', off', cap', rfl, hrow, hpos, hb⟩
            have HROW := Aside0.mk hrow
            have HPOS := Aside0.mk hpos
            have HB2 := Aside0.mk hb
            clear hrow hpos hb
            go_wp2
            go_roundg 0
            case measure => have := N.out.2 HLE.out; omega
            case rel => exact ⟨g', off', n + 1, cap', 0 :: l3, rfl, ⟨HROW.out, HPOS.out, by have := HS.out.2; have := HLE.out; omega⟩, ⟨HB.out.trans (HB2.out.mono (by omega))⟩, ⟨by rw [HB2.out.block _ (by omega)]; exact RES.out⟩, ⟨by
              have h1 := C.out.1.len
              have h2 := HLE.out
              have h3 := N.out.1
              rw [← E3.out]
              unfold padH
              rw [if_neg (by simp only [List.length_cons]; omega), if_pos (by omega)]⟩, ⟨by have := N.out.1; omega, fun h => by have := N.out.1; omega⟩⟩
          · have hle' : ¬ (n : Int) ≤ (s : Int) := by omega
            have hfin : canonL l1 s0 = (l3, s) := by
              unfold canonL
              rw [← E.out, ← E2.out, ← E3.out]
              unfold padH
              rw [if_neg (by rw [C.out.1.len]; exact hle)]
            have HH2 := HH.out
            rw [hfin] at HH2
            obtain ⟨hr1, rfl, rfl⟩ := HH2
            obtain rfl : l3.length = n := C.out.1.len
            have HR1 := Aside0.mk hr1
            have hf3 : slices_Clone_byte_byte.f l3 = some l3 := by unfold slices_Clone_byte_byte.f; rw [if_pos (by have := C.out.2.2; omega)]
            have HF3 := Aside0.mk hf3
            clear hr1 hf3 hfin HH HF1 HT hle
            cases a0 with
            | true =>
              go_wp2_with fail
              refine (dec_zero.calls (some ⟨g, off, none⟩) cap l3 _ wr C.out.1.reads C.out.1.le rfl).mono ?_
              rintro e w2 ⟨rfl, hd⟩
              have HD := Aside0.mk hd
              clear hd
              go_wp2_with fail
              refine (slices_Clone_byte_byte.calls (some ⟨g, off, none⟩) cap l3 l3 w2 (Kd.C_below C.out.1.reads HD.out.below) C.out.1.le HF3.out).mono ?_
              rintro e w3 ⟨v3, rfl, hR, hB3⟩
              have HB4 : Aside0 (Below wr.heap.size wr w3) := ⟨HD.out.below.trans (hB3.mono HD.out.below.size)⟩
              obtain ⟨A3, c3, rfl, hc3, hC3⟩ := Kd.R_reads hR
              obtain ⟨ad3, rfl, _⟩ := C_cell hC3 0 (by omega)
              have HC3 := Aside0.mk hC3
              have HB3 := Aside0.mk hB3
              have hres : w3.heap[w.heap.size]? = some (.cells #[.bool false, .slice none 0 0, .int .i64 0] 35 (0, 0)) := by
                have h1 := (Array.getElem?_eq_some_iff.1 RES.out).1
                have h2 := HB4.out
                rw [h2.block _ h1]
                exact RES.out
              have HRES := Aside0.mk hres
              have q0 : w3.cell? ⟨w.heap.size, 0, none⟩ = some (.bool false) := by rw [Lib.cell_of_heap hres]; rfl
              have q1 : w3.cell? ⟨w.heap.size, 1, none⟩ = some (.slice none 0 0) := by rw [Lib.cell_of_heap hres]; rfl
              have q2 : w3.cell? ⟨w.heap.size, 2, none⟩ = some (.int .i64 0) := by rw [Lib.cell_of_heap hres]; rfl
              have f0 := Lib.frozen_of_heap hres 0
              have f1 := Lib.frozen_of_heap hres 1
              have f2 := Lib.frozen_of_heap hres 2
              have HRR := Aside0.mk hR
              clear hR hB3 hC3 hres
              have h63 : (l3.length : Int) ≤ 9223372036854775807 := by have := C.out.2.2; omega
              go_wp2_with (go_at_call 109; go_in)
              refine bodyPost_ret (results_cell_row rfl _ _ w.heap.size 35 #[.bool (!l3.all (· == 0)), .slice (some ad3) l3.length l3.length, .int .i64 (s : Int)] (0, 0) _ rfl (by
                refine blk_put (cs := #[.bool (!l3.all (· == 0)), .slice (some ad3) l3.length l3.length, .int .i64 0]) ?_ 2 _ rfl
                refine blk_put (cs := #[.bool (!l3.all (· == 0)), .slice none 0 0, .int .i64 0]) ?_ 1 _ rfl
                exact blk_put (cs := #[.bool false, .slice none 0 0, .int .i64 0]) HRES.out 0 _ rfl) Tryz.underlying35 rfl (by kernel_rfl)) rfl ?_
              have hlt := (Array.getElem?_eq_some_iff.1 RES.out).1
              exact ⟨_, by rw [← HR1.out]; rfl, fin_view HRR.out (by have := HD.out.below.size; omega) _ _ _, (((HB.out.trans (HB4.out.mono (Nat.le_of_lt hlt))).setCell (p := ⟨w.heap.size, 0, none⟩) (Nat.le_refl _) _).setCell (p := ⟨w.heap.size, 1, none⟩) (Nat.le_refl _) _).setCell (p := ⟨w.heap.size, 2, none⟩) (Nat.le_refl _) _⟩
            | false =>
              go_wp2_with fail
              refine (slices_Clone_byte_byte.calls (some ⟨g, off, none⟩) cap l3 l3 wr C.out.1.reads C.out.1.le HF3.out).mono ?_
              rintro e w3 ⟨v3, rfl, hR, hB3⟩
              have HB4 : Aside0 (Below wr.heap.size wr w3) := ⟨hB3⟩
              obtain ⟨A3, c3, rfl, hc3, hC3⟩ := Kd.R_reads hR
              obtain ⟨ad3, rfl, _⟩ := C_cell hC3 0 (by omega)
              have HC3 := Aside0.mk hC3
              have HB3 := Aside0.mk hB3
              have hres : w3.heap[w.heap.size]? = some (.cells #[.bool false, .slice none 0 0, .int .i64 0] 35 (0, 0)) := by
                have h1 := (Array.getElem?_eq_some_iff.1 RES.out).1
                have h2 := HB4.out
                rw [h2.block _ h1]
                exact RES.out
              have HRES := Aside0.mk hres
              have q0 : w3.cell? ⟨w.heap.size, 0, none⟩ = some (.bool false) := by rw [Lib.cell_of_heap hres]; rfl
              have q1 : w3.cell? ⟨w.heap.size, 1, none⟩ = some (.slice none 0 0) := by rw [Lib.cell_of_heap hres]; rfl
              have q2 : w3.cell? ⟨w.heap.size, 2, none⟩ = some (.int .i64 0) := by rw [Lib.cell_of_heap hres]; rfl
              have f0 := Lib.frozen_of_heap hres 0
              have f1 := Lib.frozen_of_heap hres 1
              have f2 := Lib.frozen_of_heap hres 2
              have HRR := Aside0.mk hR
              clear hR hB3 hC3 hres
              have h63 : (l3.length : Int) ≤ 9223372036854775807 := by have := C.out.2.2; omega
              go_wp2_with (go_at_call 109; go_in)
              refine bodyPost_ret (results_cell_row rfl _ _ w.heap.size 35 #[.bool (false), .slice (some ad3) l3.length l3.length, .int .i64 (s : Int)] (0, 0) _ rfl (by
                refine blk_put (cs := #[.bool (false), .slice (some ad3) l3.length l3.length, .int .i64 0]) ?_ 2 _ rfl
                refine blk_put (cs := #[.bool (false), .slice none 0 0, .int .i64 0]) ?_ 1 _ rfl
                exact blk_put (cs := #[.bool false, .slice none 0 0, .int .i64 0]) HRES.out 0 _ rfl) Tryz.underlying35 rfl (by kernel_rfl)) rfl ?_
              have hlt := (Array.getElem?_eq_some_iff.1 RES.out).1
              exact ⟨_, by rw [← HR1.out]; rfl, fin_view HRR.out (by omega) _ _ _, (((HB.out.trans (HB4.out.mono (Nat.le_of_lt hlt))).setCell (p := ⟨w.heap.size, 0, none⟩) (Nat.le_refl _) _).setCell (p := ⟨w.heap.size, 1, none⟩) (Nat.le_refl _) _).setCell (p := ⟨w.heap.size, 2, none⟩) (Nat.le_refl _) _⟩
  · cases h

end Go.Proofs.YtdjgiphipjejlaaGreatDoor.G
