import Derived.Test.YthocjdlcopmhiaaDoorProg
import Derived.Below
import Derived.Deep.Draws
import Derived.Deep.AppendLies
import Derived.Maps.AppendAt
import Derived.OwnWalk
import Derived.Laws.BytesArg
import Derived.Laws.MakeOwn
import Derived.Laws.OwnMore
import Derived.Deep.OwnRows
import Derived.Tactics
import Derived.Lib.ConvBytes
import Derived.Laws.Slices
import Derived.WalkKit
import Derived.KernelRfl
import Derived.RowKit3
import Derived.Deep.LoopGhost
import Derived.Deep.QuietTactic
import Derived.BigQuiet
import Derived.WideLaws
import Derived.Deep.DeepCutAuto
import Derived.Deep.CutBlock
import Derived.Deep.RegionHeld3
import Derived.Laws.Rows
import Derived.Lib.AppendStr
import Derived.ArgAppend
import Derived.Laws.IdiomCopy
import Derived.OrdersHeld
import Derived.Laws.BitsLemmas
import Derived.RowKit
import Derived.Test.YthocjdlcopmhiaaDoorWWords
import Derived.Test.YthocjdlcopmhiaaDoorWLast
import Derived.Test.YthocjdlcopmhiaaDoorWTab
import Derived.Test.YthocjdlcopmhiaaDoorWQPut
import Derived.Test.YthocjdlcopmhiaaDoorWApart
import Derived.Test.YthocjdlcopmhiaaDoorWArr
import Derived.Test.YthocjdlcopmhiaaDoorWZeros
import Derived.Test.YthocjdlcopmhiaaDoorWFoot
import Derived.Test.YthocjdlcopmhiaaDoorWKept
import Derived.Test.YthocjdlcopmhiaaDoorWShare
import Derived.Test.YthocjdlcopmhiaaDoorWN
import Derived.Test.YthocjdlcopmhiaaDoorWRepsOne
import Derived.Test.YthocjdlcopmhiaaDoorWGuard
import Derived.Test.YthocjdlcopmhiaaDoorWNEv
import Derived.Test.YthocjdlcopmhiaaDoorWMore
import Derived.Test.YthocjdlcopmhiaaDoorWEqStruct
import Derived.Test.YthocjdlcopmhiaaDoorWFour
import Derived.Test.YthocjdlcopmhiaaDoorWFootNe
import Derived.Test.YthocjdlcopmhiaaDoorWAt
import Derived.Test.YthocjdlcopmhiaaDoorWInv
import Derived.Test.YthocjdlcopmhiaaDoorWInvWords
import Derived.Test.YthocjdlcopmhiaaDoorS
import Derived.Lib.TrailingZeros
import Derived.Laws.Bits64b
import Derived.WalkSpells
import Derived.Lib.LazyBuf
namespace Go.Proofs.YthocjdlcopmhiaaDoor.G
open Go.RowKit Go.Proofs.YthocjdlcopmhiaaDoorW.PrintWords Go.Proofs.YthocjdlcopmhiaaDoorW.PrintLast Go.Proofs.YthocjdlcopmhiaaDoorW.PrintMore
attribute [local go_sem] max2_int min2_int max_two min_two max_three min_three max_four min_four
set_option linter.unusedVariables false
set_option linter.unusedSimpArgs false
def HTab (w : World) : Prop := ∀ j, j < Lib.deBruijn64tab.length → w.cell? ⟨0, j, none⟩ = some (.int .u8 ((Lib.deBruijn64tab.getD j 0 : Nat) : Int))
theorem HTab.below {w w' : World} (h : HTab w) (hb : Below w.heap.size w w') : HTab w' := fun j hj => by
 have h1 := h j hj
 rw [hb.cell (p := ⟨0, j, none⟩) (World.block_lt_of_cell? w _ h1)]
 exact h1
theorem HTab.at_ {w w0 w' : World} (h : HTab w0) (hb : Below w0.heap.size w0 w') : HTab w' := h.below hb
theorem bits_and_u64_nat (a b : Nat) (ha : a < 18446744073709551616) (hb : b < 18446744073709551616) : bits .and .u64 (a : Int) (b : Int) = ((a &&& b : Nat) : Int) := by
 have hx : a &&& b < 2 ^ 64 := Nat.and_lt_two_pow _ (by omega)
 have h1 : (BitVec.ofInt 64 (a : Int)).toNat = a := by
  rw [BitVec.ofInt_natCast, BitVec.toNat_ofNat]; exact Nat.mod_eq_of_lt (by omega)
 have h2 : (BitVec.ofInt 64 (b : Int)).toNat = b := by
  rw [BitVec.ofInt_natCast, BitVec.toNat_ofNat]; exact Nat.mod_eq_of_lt (by omega)
 show IntKind.u64.wrap ((BitVec.ofInt 64 (a : Int) &&& BitVec.ofInt 64 (b : Int)).toNat : Int) = _
 rw [BitVec.toNat_and, h1, h2, IntKind.wrap_u64]
 omega
theorem tz64_key (x a : Nat) (hx : x < 18446744073709551616) (hx0 : x ≠ 0) (hlow : x &&& (18446744073709551616 - x) = a) :
  IntKind.u64.wrap (bits BinOp.and IntKind.u64 (x : Int) (IntKind.u64.wrap (-(x : Int))) * 285870213051353865) / 288230376151711744 = ((a * 285870213051353865 % 18446744073709551616 / 288230376151711744 : Nat) : Int) := by
 have e1 : IntKind.u64.wrap (-(x : Int)) = ((18446744073709551616 - x : Nat) : Int) := by rw [IntKind.wrap_u64]; omega
 rw [e1, bits_and_u64_nat x _ hx (by omega), hlow, IntKind.wrap_u64]
 omega
set_option maxHeartbeats 1000000 in
theorem tz64_core (x k idx : Nat) (w : World) (hx0 : ((x : Int) == 0) = false)
  (key : IntKind.u64.wrap (bits BinOp.and IntKind.u64 (x : Int) (IntKind.u64.wrap (-(x : Int))) * 285870213051353865) / 288230376151711744 = (idx : Int))
  (hi : idx < 64) (hk : k < 64) (hcell : w.cell? ⟨0, idx, none⟩ = some (.int .u8 k)) :
  Calls Tryd.prog 34 #[.int .u64 x] w fun e w' => e = .returned (.int .i64 k) ∧ w' = w := by
 go_enter Tryd.func34, Tryd.ntmps34
 go_wp2_with (simp only [key])
 go_ret
 exact ⟨rfl, rfl⟩
theorem tz64_zero (w : World) : Calls Tryd.prog 34 #[.int .u64 0] w fun e w' => e = .returned (.int .i64 64) ∧ w' = w := by
 go_enter Tryd.func34, Tryd.ntmps34
 go_wp2
 go_ret
 exact ⟨rfl, rfl⟩
def bits_TrailingZeros64.f (a0 : Int) : Option Int := if 0 ≤ a0 then if a0 < 18446744073709551616 then some (Lib.ctz 64 a0.toNat : Nat) else none else none
theorem bits_TrailingZeros64.calls (a0 : Int) (r : Int) (w : World) (htab : HTab w) (h : bits_TrailingZeros64.f a0 = some r) :
  Calls Tryd.prog 34 #[.int .u64 a0] w fun e w' => e = .returned (.int .i64 r) ∧ Drawn0 w w' := by
 unfold bits_TrailingZeros64.f at h
 by_cases h0 : 0 ≤ a0
 ·by_cases h1 : a0 < 18446744073709551616
  ·rw [if_pos h0, if_pos h1] at h
   obtain rfl := Option.some.inj h
   obtain ⟨x, rfl⟩ : ∃ x : Nat, a0 = x := ⟨a0.toNat, by omega⟩
   by_cases hx0 : x = 0
   ·subst hx0
    exact (tz64_zero w).mono fun e w' ⟨he, hw⟩ => ⟨he.trans (by rfl), ⟨0, by rw [hw]; rfl⟩⟩
   ·have hx : x < 18446744073709551616 := by omega
    obtain ⟨hlow, hk⟩ := Lib.lowest_bit 64 x hx0 hx
    obtain ⟨hi, ht⟩ := Lib.deBruijn64_at _ hk
    have hcell := htab _ (show _ < Lib.deBruijn64tab.length from hi)
    rw [ht] at hcell
    refine (tz64_core x _ _ w (by simp; omega) (tz64_key x _ hx hx0 hlow) hi hk hcell).mono fun e w' ⟨he, hw⟩ => ⟨he.trans ?_, ⟨0, by rw [hw]; rfl⟩⟩
    rw [Int.toNat_natCast]
  ·rw [if_pos h0, if_neg h1] at h; cases h
 ·rw [if_neg h0] at h; cases h
def slices_Clone_set.f (l0 : List Int) : Option (List Int) := if l0.length * 8 ≤ 140737488355328 then some l0 else none
theorem slices_Clone_set.calls (A0 : Option Addr) (c0 : Nat) (l0 r : List Int) (w : World) (hr0 : Kd.C (Kd.int .u64) w A0 l0.length l0) (hc0 : l0.length ≤ c0) (h : slices_Clone_set.f l0 = some r) :
  Calls Tryd.prog 46 #[.slice A0 l0.length c0] w fun e w' => ∃ v0_ : Value, e = .returned v0_ ∧ Kd.R (Kd.int .u64) 77 w' w.heap.size (fun _ => True) v0_ r ∧ Below w.heap.size w w' := by
 unfold slices_Clone_set.f at h
 by_cases hl : l0.length * 8 ≤ 140737488355328
 case neg => rw [if_neg hl] at h; cases h
 rw [if_pos hl] at h
 obtain rfl := Option.some.inj h
 clear h
 have hu := Tryd.underlying52
 cases A0 with
 | none =>
  have h0 : l0 = [] := by
   rcases Nat.eq_zero_or_pos l0.length with h1 | h1
   ·exact List.eq_nil_of_length_eq_zero h1
   ·obtain ⟨ad, he, _⟩ := hr0.2.2 h1
    cases he
  subst h0
  have he := fun w : World => Lib.run_eql_slice_nil w 52 77 none 0 c0 0 0 Tryd.underlying52
  clear hr0 hl
  go_enter Tryd.func46, Tryd.ntmps46
  go_wp2
  go_ret
  exact ⟨_, rfl, Kd.R_nil _ _ _ _ _, Below.refl _ _⟩
 | some ad =>
  have he := fun w : World => Lib.run_eql_slice_nil w 52 77 (some ad) l0.length c0 0 0 Tryd.underlying52
  have HR := Aside0.mk hr0; have HL := Aside0.mk hl
  clear hr0 hl hc0
  go_enter Tryd.func46, Tryd.ntmps46
  go_wp2_with (first | ((with_reducible refine gate_dst (N := 5) rfl ?_); refine Kd.R_lit (Kd.int .u64) w.heap.size 77 ?hg (N := 5) ?hd (xs := ([] : List Int)) (inner := []) (ok := fun _ => True) (okp := fun _ => True) ?hr ?hp (fun _ hk => hk) trivial (Below.refl _ _) (Nat.le_refl _) (by simp) ?_; (case hd => rfl); (case hg => rfl); (case hr => first | (go_simp; done) | (go_simp; rfl)); (case hp => exact (Reps.none _ _)); intro v1 w1 ho1 hb1 hg1 hn1; have HO1 := Aside0.mk ho1; have HB1 := Aside0.mk hb1; clear ho1 hb1 hg1 hn1) | ((with_reducible refine gate_dst (N := 7) rfl ?_); refine Kd.R_append_rows (Kd.int .u64) (Rr := (Kd.int .u64).K w1) w.heap.size ?hg (.tmp 5) (.tmp 6) 52 77 (.int .u64 0) 8 rfl Tryd.underlying52 (by kernel_rfl) rfl (by decide) (by decide) v1 [] l0 (some ad) l0.length c0 (fun _ => True) (fun _ => False) rfl rfl HO1.out (Kd.C_below HR.out HB1.out) (fun _ _ h => h) (fun _ hk => hk.elim) (fun _ _ => trivial) HB1.out (HB1.out.size) (by simpa using HL.out) ?_; (case hg => rfl); intro v2 w2 ho2 hb2 hg2 hn2; have HO2 := Aside0.mk ho2; have HB2 := Aside0.mk hb2; clear ho2 hb2 hg2 hn2))
  go_ret
  exact ⟨_, rfl, HO2.out, HB2.out⟩
def slices_Clone_bool.f (l0 : List Bool) : Option (List Bool) := if l0.length * 1 ≤ 140737488355328 then some l0 else none
theorem slices_Clone_bool.calls (A0 : Option Addr) (c0 : Nat) (l0 r : List Bool) (w : World) (hr0 : Kd.C Kd.bool w A0 l0.length l0) (hc0 : l0.length ≤ c0) (h : slices_Clone_bool.f l0 = some r) :
  Calls Tryd.prog 49 #[.slice A0 l0.length c0] w fun e w' => ∃ v0_ : Value, e = .returned v0_ ∧ Kd.R Kd.bool 4 w' w.heap.size (fun _ => True) v0_ r ∧ Below w.heap.size w w' := by
 unfold slices_Clone_bool.f at h
 by_cases hl : l0.length * 1 ≤ 140737488355328
 case neg => rw [if_neg hl] at h; cases h
 rw [if_pos hl] at h
 obtain rfl := Option.some.inj h
 clear h
 have hu := Tryd.underlying66
 cases A0 with
 | none =>
  have h0 : l0 = [] := by
   rcases Nat.eq_zero_or_pos l0.length with h1 | h1
   ·exact List.eq_nil_of_length_eq_zero h1
   ·obtain ⟨ad, he, _⟩ := hr0.2.2 h1
    cases he
  subst h0
  have he := fun w : World => Lib.run_eql_slice_nil w 66 4 none 0 c0 0 0 Tryd.underlying66
  clear hr0 hl
  go_enter Tryd.func49, Tryd.ntmps49
  go_wp2
  go_ret
  exact ⟨_, rfl, Kd.R_nil _ _ _ _ _, Below.refl _ _⟩
 | some ad =>
  have he := fun w : World => Lib.run_eql_slice_nil w 66 4 (some ad) l0.length c0 0 0 Tryd.underlying66
  have HR := Aside0.mk hr0; have HL := Aside0.mk hl
  clear hr0 hl hc0
  go_enter Tryd.func49, Tryd.ntmps49
  go_wp2_with (first | ((with_reducible refine gate_dst (N := 5) rfl ?_); refine Kd.R_lit Kd.bool w.heap.size 4 ?hg (N := 5) ?hd (xs := ([] : List Bool)) (inner := []) (ok := fun _ => True) (okp := fun _ => True) ?hr ?hp (fun _ hk => hk) trivial (Below.refl _ _) (Nat.le_refl _) (by simp) ?_; (case hd => rfl); (case hg => rfl); (case hr => first | (go_simp; done) | (go_simp; rfl)); (case hp => exact (Reps.none _ _)); intro v1 w1 ho1 hb1 hg1 hn1; have HO1 := Aside0.mk ho1; have HB1 := Aside0.mk hb1; clear ho1 hb1 hg1 hn1) | ((with_reducible refine gate_dst (N := 7) rfl ?_); refine Kd.R_append_rows Kd.bool (Rr := Kd.bool.K w1) w.heap.size ?hg (.tmp 5) (.tmp 6) 66 4 (.bool false) 1 rfl Tryd.underlying66 (by kernel_rfl) rfl (by decide) (by decide) v1 [] l0 (some ad) l0.length c0 (fun _ => True) (fun _ => False) rfl rfl HO1.out (Kd.C_below HR.out HB1.out) (fun _ _ h => h) (fun _ hk => hk.elim) (fun _ _ => trivial) HB1.out (HB1.out.size) (by simpa using HL.out) ?_; (case hg => rfl); intro v2 w2 ho2 hb2 hg2 hn2; have HO2 := Aside0.mk ho2; have HB2 := Aside0.mk hb2; clear ho2 hb2 hg2 hn2))
  go_ret
  exact ⟨_, rfl, HO2.out, HB2.out⟩
def slices_Clone_int.f (l0 : List Int) : Option (List Int) := if l0.length * 8 ≤ 140737488355328 then some l0 else none
theorem slices_Clone_int.calls (A0 : Option Addr) (c0 : Nat) (l0 r : List Int) (w : World) (hr0 : Kd.C (Kd.int .i64) w A0 l0.length l0) (hc0 : l0.length ≤ c0) (h : slices_Clone_int.f l0 = some r) :
  Calls Tryd.prog 25 #[.slice A0 l0.length c0] w fun e w' => ∃ v0_ : Value, e = .returned v0_ ∧ Kd.R (Kd.int .i64) 3 w' w.heap.size (fun _ => True) v0_ r ∧ Below w.heap.size w w' := by
 unfold slices_Clone_int.f at h
 by_cases hl : l0.length * 8 ≤ 140737488355328
 case neg => rw [if_neg hl] at h; cases h
 rw [if_pos hl] at h
 obtain rfl := Option.some.inj h
 clear h
 have hu := Tryd.underlying25
 cases A0 with
 | none =>
  have h0 : l0 = [] := by
   rcases Nat.eq_zero_or_pos l0.length with h1 | h1
   ·exact List.eq_nil_of_length_eq_zero h1
   ·obtain ⟨ad, he, _⟩ := hr0.2.2 h1
    cases he
  subst h0
  have he := fun w : World => Lib.run_eql_slice_nil w 25 3 none 0 c0 0 0 Tryd.underlying25
  clear hr0 hl
  go_enter Tryd.func25, Tryd.ntmps25
  go_wp2
  go_ret
  exact ⟨_, rfl, Kd.R_nil _ _ _ _ _, Below.refl _ _⟩
 | some ad =>
  have he := fun w : World => Lib.run_eql_slice_nil w 25 3 (some ad) l0.length c0 0 0 Tryd.underlying25
  have HR := Aside0.mk hr0; have HL := Aside0.mk hl
  clear hr0 hl hc0
  go_enter Tryd.func25, Tryd.ntmps25
  go_wp2_with (first | ((with_reducible refine gate_dst (N := 5) rfl ?_); refine Kd.R_lit (Kd.int .i64) w.heap.size 3 ?hg (N := 5) ?hd (xs := ([] : List Int)) (inner := []) (ok := fun _ => True) (okp := fun _ => True) ?hr ?hp (fun _ hk => hk) trivial (Below.refl _ _) (Nat.le_refl _) (by simp) ?_; (case hd => rfl); (case hg => rfl); (case hr => first | (go_simp; done) | (go_simp; rfl)); (case hp => exact (Reps.none _ _)); intro v1 w1 ho1 hb1 hg1 hn1; have HO1 := Aside0.mk ho1; have HB1 := Aside0.mk hb1; clear ho1 hb1 hg1 hn1) | ((with_reducible refine gate_dst (N := 7) rfl ?_); refine Kd.R_append_rows (Kd.int .i64) (Rr := (Kd.int .i64).K w1) w.heap.size ?hg (.tmp 5) (.tmp 6) 25 3 (.int .i64 0) 8 rfl Tryd.underlying25 (by kernel_rfl) rfl (by decide) (by decide) v1 [] l0 (some ad) l0.length c0 (fun _ => True) (fun _ => False) rfl rfl HO1.out (Kd.C_below HR.out HB1.out) (fun _ _ h => h) (fun _ hk => hk.elim) (fun _ _ => trivial) HB1.out (HB1.out.size) (by simpa using HL.out) ?_; (case hg => rfl); intro v2 w2 ho2 hb2 hg2 hn2; have HO2 := Aside0.mk ho2; have HB2 := Aside0.mk hb2; clear ho2 hb2 hg2 hn2))
  go_ret
  exact ⟨_, rfl, HO2.out, HB2.out⟩
end Go.Proofs.YthocjdlcopmhiaaDoor.G
