import Derived.Test.YthocjdlcopmhiaaDoorProg
import Derived.Below
import Derived.Deep.Draws
import Derived.Deep.AppendLies
import Derived.Maps.AppendAt
import Derived.OwnWalk
import Derived.Laws.BytesArg
import Derived.Laws.MakeOwn
import Derived.Laws.OwnMore
import Derived.Deep.OwnRows
import Derived.Tactics
import Derived.Lib.ConvBytes
import Derived.Laws.Slices
import Derived.WalkKit
import Derived.KernelRfl
import Derived.RowKit3
import Derived.Deep.LoopGhost
import Derived.Deep.QuietTactic
import Derived.BigQuiet
import Derived.WideLaws
import Derived.Deep.DeepCutAuto
import Derived.Deep.CutBlock
import Derived.Deep.RegionHeld3
import Derived.Laws.Rows
import Derived.Lib.AppendStr
import Derived.ArgAppend
import Derived.Laws.IdiomCopy
import Derived.OrdersHeld
import Derived.Laws.BitsLemmas
import Derived.RowKit
import Derived.Test.YthocjdlcopmhiaaDoorWWords
import Derived.Test.YthocjdlcopmhiaaDoorWLast
import Derived.Test.YthocjdlcopmhiaaDoorWTab
import Derived.Test.YthocjdlcopmhiaaDoorWQPut
import Derived.Test.YthocjdlcopmhiaaDoorWApart
import Derived.Test.YthocjdlcopmhiaaDoorWArr
import Derived.Test.YthocjdlcopmhiaaDoorWZeros
import Derived.Test.YthocjdlcopmhiaaDoorWFoot
import Derived.Test.YthocjdlcopmhiaaDoorWKept
import Derived.Test.YthocjdlcopmhiaaDoorWShare
import Derived.Test.YthocjdlcopmhiaaDoorWN
import Derived.Test.YthocjdlcopmhiaaDoorWRepsOne
import Derived.Test.YthocjdlcopmhiaaDoorWGuard
import Derived.Test.YthocjdlcopmhiaaDoorWNEv
import Derived.Test.YthocjdlcopmhiaaDoorWMore
import Derived.Test.YthocjdlcopmhiaaDoorWEqStruct
import Derived.Test.YthocjdlcopmhiaaDoorWFour
import Derived.Test.YthocjdlcopmhiaaDoorWFootNe
import Derived.Test.YthocjdlcopmhiaaDoorWAt
import Derived.Test.YthocjdlcopmhiaaDoorWInv
import Derived.Test.YthocjdlcopmhiaaDoorWInvWords
import Derived.Test.YthocjdlcopmhiaaDoorM11
import Derived.Sort.OwnSortedInts
import Derived.Shelf.Sort.Plain
import Derived.Shelf.Slices.CompactI
import Derived.Shelf.Slices.In.SortNone
import Derived.Ground.Names2Prog
import Derived.Test.YthocjdlcopmhiaaDoorM2
import Derived.Test.YthocjdlcopmhiaaDoorG1
import Derived.Test.YthocjdlcopmhiaaDoorM10
namespace Go.Proofs.YthocjdlcopmhiaaDoor.G
open Go.RowKit Go.Proofs.YthocjdlcopmhiaaDoorW.PrintWords Go.Proofs.YthocjdlcopmhiaaDoorW.PrintLast Go.Proofs.YthocjdlcopmhiaaDoorW.PrintMore
attribute [local go_sem] max2_int min2_int max_two min_two max_three min_three max_four min_four
set_option linter.unusedVariables false
set_option linter.unusedSimpArgs false
open Go.Shelf Go.Sort
def lays189_ren : Go.Shelf.Ren := ⟨fun | 189 => 39 | 125 => 51 | 257 => 50 | 128 => 63 | 129 => 64 | 294 => 54 | 295 => 55 | 296 => 56 | 297 => 57 | 298 => 58 | 299 => 59 | 216 => 60 | 300 => 61 | 301 => 62 | 328 => 65 | 329 => 66 | 330 => 67 | 331 => 68 | 332 => 69 | 215 => 70 | 343 => 71 | n => n, fun | 28 => 25 | 3 => 3 | 46 => 94 | 0 => 0 | 51 => 110 | 53 => 77 | 4 => 4 | 183 => 102 | 182 => 101 | 131 => 107 | 5 => 5 | 9 => 9 | 218 => 111 | 222 => 115 | 228 => 117 | 229 => 118 | n => n, fun | n => n⟩
theorem lays189 : Go.Proofs.Lays.n189 Tryd.prog lays189_ren := {
 mixed := by kernel_rfl
 f125 := Tryd.func51.trans (congrArg some (by kernel_rfl))
 f128 := Tryd.func63.trans (congrArg some (by kernel_rfl))
 f129 := Tryd.func64.trans (congrArg some (by kernel_rfl))
 f189 := Tryd.func39.trans (congrArg some (by kernel_rfl))
 f215 := Tryd.func70.trans (congrArg some (by kernel_rfl))
 f216 := Tryd.func60.trans (congrArg some (by kernel_rfl))
 f257 := Tryd.func50.trans (congrArg some (by kernel_rfl))
 f294 := Tryd.func54.trans (congrArg some (by kernel_rfl))
 f295 := Tryd.func55.trans (congrArg some (by kernel_rfl))
 f296 := Tryd.func56.trans (congrArg some (by kernel_rfl))
 f297 := Tryd.func57.trans (congrArg some (by kernel_rfl))
 f298 := Tryd.func58.trans (congrArg some (by kernel_rfl))
 f299 := Tryd.func59.trans (congrArg some (by kernel_rfl))
 f300 := Tryd.func61.trans (congrArg some (by kernel_rfl))
 f301 := Tryd.func62.trans (congrArg some (by kernel_rfl))
 f328 := Tryd.func65.trans (congrArg some (by kernel_rfl))
 f329 := Tryd.func66.trans (congrArg some (by kernel_rfl))
 f330 := Tryd.func67.trans (congrArg some (by kernel_rfl))
 f331 := Tryd.func68.trans (congrArg some (by kernel_rfl))
 f332 := Tryd.func69.trans (congrArg some (by kernel_rfl))
 f343 := Tryd.func71.trans (congrArg some (by kernel_rfl))
 t0 := Tryd.underlying0
 a0 := Tryd.isAgg0
 z0 := Tryd.sizeOf0
 v0 := Tryd.zeroValue0
 t3 := Tryd.underlying3
 a3 := Tryd.isAgg3
 z3 := Tryd.sizeOf3
 v3 := Tryd.zeroValue3
 t4 := Tryd.underlying4
 a4 := Tryd.isAgg4
 z4 := Tryd.sizeOf4
 v4 := Tryd.zeroValue4
 t5 := Tryd.underlying5
 a5 := Tryd.isAgg5
 z5 := Tryd.sizeOf5
 v5 := Tryd.zeroValue5
 t9 := Tryd.underlying9
 a9 := Tryd.isAgg9
 z9 := Tryd.sizeOf9
 v9 := Tryd.zeroValue9
 t28 := Tryd.underlying25
 a28 := Tryd.isAgg25
 z28 := Tryd.sizeOf25
 v28 := Tryd.zeroValue25
 t46 := Tryd.underlying94
 a46 := Tryd.isAgg94
 z46 := Tryd.sizeOf94
 v46 := Tryd.zeroValue94
 t51 := Tryd.underlying110
 a51 := Tryd.isAgg110
 z51 := Tryd.sizeOf110
 v51 := Tryd.zeroValue110
 t53 := Tryd.underlying77
 a53 := Tryd.isAgg77
 z53 := Tryd.sizeOf77
 v53 := Tryd.zeroValue77
 t131 := Tryd.underlying107
 a131 := Tryd.isAgg107
 z131 := Tryd.sizeOf107
 v131 := Tryd.zeroValue107
 t182 := Tryd.underlying101
 a182 := Tryd.isAgg101
 z182 := Tryd.sizeOf101
 v182 := Tryd.zeroValue101
 t183 := Tryd.underlying102
 a183 := Tryd.isAgg102
 z183 := Tryd.sizeOf102
 v183 := Tryd.zeroValue102
 t218 := Tryd.underlying111
 a218 := Tryd.isAgg111
 z218 := Tryd.sizeOf111
 v218 := Tryd.zeroValue111
 t222 := Tryd.underlying115
 a222 := Tryd.isAgg115
 z222 := Tryd.sizeOf115
 v222 := Tryd.zeroValue115
 t228 := Tryd.underlying117
 a228 := Tryd.isAgg117
 z228 := Tryd.sizeOf117
 v228 := Tryd.zeroValue117
 t229 := Tryd.underlying118
 a229 := Tryd.isAgg118
 z229 := Tryd.sizeOf118
 v229 := Tryd.zeroValue118 }
open Go.Sort Go.RowKit in
theorem sh_slices_Sort_int (blk off cap : Nat) (zs : List Int) (w : World) (hH : Holds (Value.int .i64) w blk off zs.toArray) (hblk : blk < w.heap.size) (hsz : zs.length < 4611686018427387904) :
  Calls Tryd.prog 39 #[.slice (some ⟨blk, off, none⟩) zs.length cap] w fun e w' =>
   e = .returned (.tuple #[]) ∧ ∃ n os, w' = grow (putRow (Value.int .i64) (Sort.ahead w n) blk off (zs.mergeSort fun x y => decide (x ≤ y)).toArray) os := Any.slices_Sort_int lays189 blk off cap zs w hH hblk hsz
def laysNm220_ren : Go.Shelf.Ren := ⟨fun | 20 => 41 | n => n, fun | 22 => 25 | 3 => 3 | 4 => 4 | 0 => 0 | n => n, fun | n => n⟩
theorem laysNm220 : Go.Proofs.Lays2.n20 Tryd.prog laysNm220_ren := {
 mixed := by kernel_rfl
 f20 := Tryd.func41.trans (congrArg some (by kernel_rfl))
 t0 := Tryd.underlying0
 a0 := Tryd.isAgg0
 z0 := Tryd.sizeOf0
 v0 := Tryd.zeroValue0
 t3 := Tryd.underlying3
 a3 := Tryd.isAgg3
 z3 := Tryd.sizeOf3
 v3 := Tryd.zeroValue3
 t4 := Tryd.underlying4
 a4 := Tryd.isAgg4
 z4 := Tryd.sizeOf4
 v4 := Tryd.zeroValue4
 t22 := Tryd.underlying25
 a22 := Tryd.isAgg25
 z22 := Tryd.sizeOf25
 v22 := Tryd.zeroValue25
 i3 := by kernel_rfl }
open Go.RowKit Go.Lib Go.Sort in
theorem sh_slices_Compact_int (blk off cap : Nat) (zs : List Int) (w : World) (hH : Holds (Value.int .i64) w blk off zs.toArray) (hsz : zs.length ≤ 9223372036854775807) (hcap : zs.length ≤ cap) :
  Calls Tryd.prog 41 #[.slice (some ⟨blk, off, none⟩) zs.length cap] w fun e w' => e = .returned (.slice (some ⟨blk, off, none⟩) (Lib.compact zs).length cap) ∧ ∃ q, w' = putRow (Value.int .i64) (Sort.ahead w q) blk off (Lib.compact zs ++ List.replicate (zs.length - (Lib.compact zs).length) 0).toArray := Any.slices_Compact_int laysNm220 blk off cap zs w hH hsz hcap
open Go.RowKit Go.Lib Go.Sort in
theorem sh_slices_Compact_int_empty (a : Option Addr) (cap : Nat) (w : World) :
  Calls Tryd.prog 41 #[.slice a 0 cap] w fun e w' => e = .returned (.slice a 0 cap) ∧ w' = w := Any.slices_Compact_int_empty laysNm220 a cap w
open Go.RowKit Go.Sort in
theorem sh_slices_Sort_int_none (p : Option Addr) (cap : Nat) (w : World) :
  Calls Tryd.prog 39 #[.slice p 0 cap] w fun e w' => e = .returned (.tuple #[]) ∧ w' = w := Any.slices_Sort_int_none lays189 p cap w
theorem grown_refl (w : World) (r : Option Nat) : w.grownBy w r := ⟨rfl, rfl, rfl, Nat.le_refl _, fun _ _ _ => rfl⟩
theorem sort_own {base : Nat} (v : Value) (l : List Int) (w : World) (h : w.ownsRow base 3 1 v l.length (l.map (Value.int .i64))) (hb : base ≤ w.heap.size) (hl : l.length ≤ 17592186044416) :
  Calls Tryd.prog 39 #[v] w fun e w' => e = .returned (.tuple #[]) ∧ w'.ownsRow base 3 1 v (sortZ l).length ((sortZ l).map (Value.int .i64)) ∧ Below base w w' ∧ w.grownBy w' v.ownBlock := by
 rcases h.2 with ⟨rfl, hn⟩ | ⟨g, cap, cur, rfl, hbase, hc, h1, h2, h3, h4⟩
 ·obtain rfl : l = [] := List.eq_nil_of_length_eq_zero hn
  refine (sh_slices_Sort_int_none none 0 w).mono ?_
  rintro e w' ⟨rfl, rfl⟩
  exact ⟨rfl, by simpa [sortZ] using h, Below.refl _ _, grown_refl _ _⟩
 ·have h4' : cur.toList.take l.length = l.map (Value.int .i64) := by rw [← h4, Nat.mul_one]
  have hs := sh_slices_Sort_int g 0 cap l w (holds_of_blockI hc h4') (Array.getElem?_eq_some_iff.1 hc).1 (by omega)
  refine hs.mono ?_
  rintro e w' ⟨rfl, n, os, rfl⟩
  refine ⟨rfl, ?_, (Below.refl base w).grown (grownBy_sortedI _) hb (by intro k hk; injection hk with hk; omega), grownBy_sortedI _⟩
  have := ownsRow_sortedI (n := n) (os := os) (ss := l) (ts := l.mergeSort fun x y => decide (x ≤ y)) (by simp) hbase hc (by simpa using h1) h2 h3
  rw [sortZ_length]
  exact this
theorem compact_own {base : Nat} (v : Value) (l : List Int) (w : World) (h : w.ownsRow base 3 1 v l.length (l.map (Value.int .i64))) (hb : base ≤ w.heap.size) (hl : l.length ≤ 17592186044416) :
  Calls Tryd.prog 41 #[v] w fun e w' => ∃ v', e = .returned v' ∧ w'.ownsRow base 3 1 v' (Lib.compact l).length ((Lib.compact l).map (Value.int .i64)) ∧ Below base w w' ∧ w.grownBy w' v.ownBlock ∧ v'.ownBlock = v.ownBlock := by
 rcases h.2 with ⟨rfl, hn⟩ | ⟨g, cap, cur, rfl, hbase, hc, h1, h2, h3, h4⟩
 ·obtain rfl : l = [] := List.eq_nil_of_length_eq_zero hn
  refine (sh_slices_Compact_int_empty none 0 w).mono ?_
  rintro e w' ⟨rfl, rfl⟩
  exact ⟨_, rfl, by simpa [Lib.compact, Lib.compactUpTo] using h, Below.refl _ _, grown_refl _ _, rfl⟩
 ·have h4' : cur.toList.take l.length = l.map (Value.int .i64) := by rw [← h4, Nat.mul_one]
  have hs := sh_slices_Compact_int g 0 cap l w (holds_of_blockI hc h4') (by omega) (by simpa using h1)
  refine hs.mono ?_
  have hcl : (Lib.compact l).length ≤ l.length := by unfold Lib.compact Lib.compactUpTo; rw [List.length_map]; exact Nat.le_trans (List.length_filter_le _ _) (by simp)
  rintro e w' ⟨rfl, q, rfl⟩
  have hg := grownBy_sortedI (w := w) (g := g) (n := q) (os := #[]) (Lib.compact l ++ List.replicate (l.length - (Lib.compact l).length) 0).toArray
  have hh := heap_sortedI (n := q) (os := #[]) (Lib.compact l ++ List.replicate (l.length - (Lib.compact l).length) 0).toArray hc
  rw [grow_empty] at hg hh
  refine ⟨_, rfl, ?_, (Below.refl base w).grown hg hb (by intro k hk; injection hk with hk; omega), hg, rfl⟩
  refine ⟨by simp, .inr ⟨g, cap, _, rfl, hbase, hh, by omega, h2, by simp [putCells, h3], ?_⟩⟩
  have ht := take_putCellsI cur (Lib.compact l ++ List.replicate (l.length - (Lib.compact l).length) 0) (by simp; omega)
  have ht2 := congrArg (List.take (Lib.compact l).length) ht
  rw [List.take_take, List.length_append, Nat.min_eq_left (by omega), List.map_append, List.take_append_of_le_length (by simp), List.take_of_length_le (l := List.map (Value.int .i64) _) (by simp)] at ht2
  rw [Nat.mul_one]
  exact ht2
end Go.Proofs.YthocjdlcopmhiaaDoor.G
namespace Go.Proofs.YthocjdlcopmhiaaDoor.G
open Go.RowKit Go.Proofs.YthocjdlcopmhiaaDoorW.PrintWords Go.Proofs.YthocjdlcopmhiaaDoorW.PrintLast Go.Proofs.YthocjdlcopmhiaaDoorW.PrintMore
attribute [local go_sem] max2_int min2_int max_two min_two max_three min_three max_four min_four
set_option linter.unusedVariables false
set_option linter.unusedSimpArgs false
def RS8.T : Bool × List (List Nat × List Nat) := (true, [([], []), ([], []), ([], []), ([2], [2]), ([], []), ([3, 4], [3, 4]), ([5], [5]), ([], []), ([1, 6, 7], [1, 6, 7]), ([0, 8, 8], [0, 8]), ([9, 9, 0, 1, 2, 3, 4, 5, 6, 7, 8, 9], [0, 9])])
def RS8.B : List Nat := [0, 0, 0, 4, 0, 28, 60, 0, 254, 511, 1023]
theorem RS8.tab : rtab .any (opsOf Tryd.f23 8) = RS8.T := by kernel_rfl
theorem RS8.bits : waitsOk RS8.T.2 RS8.B = true := by kernel_rfl
theorem R_ints {w : World} {b : Nat} {ok : Nat → Prop} {v : Value} {l : List Int} (h : Kd.R KI 3 w b ok v l) : w.ownsRow b 3 1 v l.length (l.map (Value.int .i64)) := Kd.own_of_R h
theorem R_of_ints {w : World} {b : Nat} {ok : Nat → Prop} {v : Value} {l : List Int} (h : w.ownsRow b 3 1 v l.length (l.map (Value.int .i64))) (hok : ∀ k, v.ownBlock = some k → ok k) : Kd.R KI 3 w b ok v l := Kd.R_of_own h hok
def stepP (a : AD) (l : List Int) (s q : Int) : Prop := ∃ p ∈ l, a.fol p q ∧ a.in_ q ∧ a.sym q = s
theorem mem_first {a : AD} {s q : Int} : q ∈ a.first.filter (ofP a s) ↔ q ∈ a.first ∧ a.in_ q ∧ a.sym q = s := by rw [List.mem_filter, ofP_iff]
set_option maxHeartbeats 1000000 in
theorem clip_calls (A : Option Addr) (n c : Nat) (w : World) (h : n ≤ c) : Calls Tryd.prog 40 #[.slice A n c] w fun e w' => e = .returned (.slice A n n) ∧ w' = w := by
 have h1 : ((n : Int) ≤ (c : Int)) = True := eq_true (by omega)
 go_enter Tryd.func40, Tryd.ntmps40
 go_wp2_with (fail)
 go_ret
 exact ⟨rfl, rfl⟩
section
variable {w : World} {a : AD} {A0 : Option Addr} {c0 : Nat} {A2 : Option Addr} {c2 : Nat} {A3 : Option Addr} {c3 : Nat} {A4 : Option Addr} {c4 : Nat}
theorem of_calls (s : Int) (l : List Int) (Al : Option Addr) (cl : Nat) (hr : ARead w a A0 c0 A2 c2 A3 c3 A4 c4) (hl : Kd.C KI w Al l.length l) (hc : l.length ≤ cl) (hll : l.length ≤ 1048576) :
  Calls Tryd.prog 38 #[AVl a A0 c0 A2 c2 A3 c3 A4 c4, .slice Al l.length cl, .int .i64 s] w fun e w' => ∃ v : Value, e = .returned v ∧ Kd.R KI 3 w' w.heap.size (fun _ => True) v (l.filter (ofP a s)) ∧ Below w.heap.size w w' := by
 refine (Pr.glush_Auto_of.calls (l.length + 1) A0 c0 a.syms a.null A2 c2 a.first A3 c3 a.last A4 c4 a.follow Al cl l s _ w hr.s hr.s' hr.f hr.f' hr.l hr.l' hr.o hr.o' hl hc (of_eq a s l (by omega))).mono ?_
 rintro e w' ⟨v, rfl, h1, h2⟩
 exact ⟨v, rfl, Kd.R_mono h1 (fun _ _ => trivial), h2⟩
set_option maxHeartbeats 4000000 in
set_option maxRecDepth 100000 in
theorem step_nil (s : Int) (hr : ARead w a A0 c0 A2 c2 A3 c3 A4 c4) :
  Calls Tryd.prog 23 #[AVl a A0 c0 A2 c2 A3 c3 A4 c4, .slice none 0 0, .int .i64 s] w fun e w' => ∃ (v : Value) (r : List Int), e = .returned v ∧ Kd.R KI 3 w' w.heap.size (fun _ => True) v r ∧ (∀ q, q ∈ r ↔ q ∈ a.first ∧ a.in_ q ∧ a.sym q = s) ∧ r.length ≤ 1024 ∧ Below w.heap.size w w' := by
 have hu33 := Tryd.underlying33
 have hq := fun w => eq_nil none 0 0 w
 have HR := Lib.hid hr
 clear hr
 go_enter Tryd.func23, Tryd.ntmps23
 go_wp2_with (fail)
 have hby := below_alloc (Below.refl w.heap.size w) (AB a A0 c0 A2 c2 A3 c3 A4 c4)
 refine (of_calls s a.first A2 c2 (HR.out.below hby) (HR.out.below hby).f HR.out.f' (by have := HR.out.n2; omega)).mono ?_
 rintro e w1 ⟨v, rfl, h1, h2⟩
 have H1 := Lib.hid h1; have H2 := Lib.hid (below_step hby h2)
 have HS := Lib.hid hby.size
 clear h1 h2 hby
 go_wp2_with (fail)
 go_ret
 exact ⟨v, _, rfl, Kd.R_lower H1.out HS.out, fun q => mem_first, by have h1 := List.length_filter_le (ofP a s) a.first; have h2 := HR.out.n2; omega, H2.out⟩
set_option maxHeartbeats 8000000 in
set_option maxRecDepth 100000 in
theorem step_from (l : List Int) (ad : Addr) (cl : Nat) (s : Int) (hr : ARead w a A0 c0 A2 c2 A3 c3 A4 c4) (hl : Kd.C KI w (some ad) l.length l) (hll : l.length ≤ 1024) :
  Calls Tryd.prog 23 #[AVl a A0 c0 A2 c2 A3 c3 A4 c4, .slice (some ad) l.length cl, .int .i64 s] w fun e w' => ∃ (v : Value) (r : List Int), e = .returned v ∧ Kd.V KI 3 w' 0 (fun _ => True) v r ∧ (∀ q, q ∈ r ↔ stepP a l s q) ∧ r.length ≤ 1024 ∧ Below w.heap.size w w' := by
 have hu33 := Tryd.underlying33
 have hq := fun w => eq_nil (some ad) l.length cl w
 have HR := Lib.hid hr; have HL := Lib.hid hl; have HLL := Lib.hid hll
 clear hr hl hll
 go_enter Tryd.func23, Tryd.ntmps23
 go_upto_region 4 with (first | ((with_reducible refine gate_dst (N := 17) rfl ?_); refine Kd.R_lit KI (w0 := w.alloc (AB a A0 c0 A2 c2 A3 c3 A4 c4)) (w.heap.size + 1) 3 ?hg (N := 17) ?hd (xs := ([] : List Int)) (inner := []) (ok := fun _ => True) (okp := fun _ => True) ?hr ?hp (fun _ hk => hk) trivial (by have := Below.refl (w.alloc (AB a A0 c0 A2 c2 A3 c3 A4 c4)).heap.size (w.alloc (AB a A0 c0 A2 c2 A3 c3 A4 c4)); simpa using this) (by simp) (by simp) ?_; (case hd => rfl); (case hg => rfl); (case hr => first | (go_simp; done) | (go_simp; rfl)); (case hp => exact (Reps.none _ _)); intro v1 w1 ho1 hb1 hg1 hn1; have HO1 := Lib.hid ho1; have HB1 := Lib.hid hb1; clear ho1 hb1 hg1 hn1))
 have hby := below_alloc (Below.refl w.heap.size w) (AB a A0 c0 A2 c2 A3 c3 A4 c4)
 have KA : (w.alloc (AB a A0 c0 A2 c2 A3 c3 A4 c4)).heap[w.heap.size]? = some (AB a A0 c0 A2 c2 A3 c3 A4 c4) := blk_new w _
 have hsz : w.heap.size + 1 = (w.alloc (AB a A0 c0 A2 c2 A3 c3 A4 c4)).heap.size := by simp
 have h1 := HO1.out; have h2 := HB1.out
 rw [hsz] at h1 h2
 clear HO1 HB1 hsz
 generalize w.alloc (AB a A0 c0 A2 c2 A3 c3 A4 c4) = wA at hby KA h1 h2
 obtain ⟨Ao, co, rfl⟩ := Kd.R_slice h1
 have HBY := Lib.hid hby; have HKA := Lib.hid KA; have HRA := Lib.hid (HR.out.below hby); have HLA := Lib.hid (Kd.C_below HL.out hby); have H1 := Lib.hid h1; have H2 := Lib.hid h2
 clear hby KA h1 h2 HR HL
 go_wp2_with (fail)
 go_loopg [7, 20] l.length (fun kq v7 v20 w' => ∃ (q : Nat) (r : List Int) (Ar : Option Addr) (cr : Nat), v7 = .slice Ar r.length cr ∧ v20 = .int .i64 q ∧ Hid (q ≤ l.length) ∧ Hid (kq = l.length - q) ∧ Hid (Kd.R KI 3 w' wA.heap.size (fun _ => True) (.slice Ar r.length cr) r) ∧ Hid (∀ x, x ∈ r ↔ stepP a (l.take q) s x) ∧ Hid (r.length ≤ q * 1024) ∧ Hid (Below wA.heap.size wA w'))
 case atStart => exact ⟨0, [], Ao, co, rfl, rfl, Lib.hid (Nat.zero_le _), Lib.hid rfl, H1, Lib.hid (fun x => by simp [stepP]), Lib.hid (by simp), H2⟩
 case round =>
  obtain ⟨q, r, Ar, cr, rfl, rfl, HQ, HKQ, HO, HM, HLN, HB⟩ := hrel
  clear H1 H2
  by_cases hlt : q < l.length
  case pos =>
   have hd1 : decide ((q : Int) < (l.length : Int)) = true := decide_eq_true (by omega)
   have hd2 : decide (q < l.length) = true := decide_eq_true hlt
   have hp0 : (0 ≤ (q : Int)) = True := eq_true (by omega)
   have hp1 : ((q : Int) < (l.length : Int)) = True := eq_true (by omega)
   have hp2 : (q < l.length) = True := eq_true hlt
   obtain ⟨ad', eal, hcl⟩ := Kd.at_int (Kd.C_below HLA.out HB.out) (q : Int) (by omega) (by omega)
   obtain rfl : ad = ad' := Option.some.inj eal
   rw [rd_getD_, Int.toNat_natCast] at hcl
   have hw : wrap64 ((q : Int) + 1) = ((q + 1 : Nat) : Int) := by have := HLL.out; unfold wrap64; omega
   have htk : l.take (q + 1) = l.take q ++ [l.getD q 0] := by rw [List.take_succ_eq_append_getElem hlt, List.getD_eq_getElem?_getD, List.getElem?_eq_getElem hlt]; rfl
   generalize hp : l.getD q 0 = p at hcl htk
   have HTK := Lib.hid htk; have HLT := Lib.hid hlt
   have HKq := Lib.hid (blk_below HKA.out HB.out)
   have hsp : ∀ x, stepP a (l.take (q + 1)) s x ↔ stepP a (l.take q) s x ∨ (a.fol p x ∧ a.in_ x ∧ a.sym x = s) := fun x => by
    rw [htk]
    unfold stepP
    constructor
    ·rintro ⟨y, hy, h⟩
     rcases List.mem_append.1 hy with hy | hy
     ·exact .inl ⟨y, hy, h⟩
     ·rw [List.mem_singleton] at hy; subst hy; exact .inr h
    ·rintro (⟨y, hy, h⟩ | h)
     ·exact ⟨y, List.mem_append_left _ hy, h⟩
     ·exact ⟨p, List.mem_append_right _ (List.mem_singleton.2 rfl), h⟩
   have HSP := Lib.hid hsp
   obtain ⟨k0, k1, k2, k3, k4⟩ := five HKq.out
   clear hlt htk hp hsp eal
   by_cases hin : 0 ≤ p ∧ p < (a.follow.length : Int)
   case pos =>
    have e1 : decide (p ≥ 0) = true := decide_eq_true hin.1
    have e2 : decide (p < (a.follow.length : Int)) = true := decide_eq_true hin.2
    have e3 : (0 ≤ p) = True := eq_true hin.1
    have e4 : (p < (a.follow.length : Int)) = True := eq_true hin.2
    obtain ⟨adf, Ap, cp, rfl, hcfA, hlf, hCf⟩ := Pr.at_L7 HRA.out.o p hin.1 hin.2
    have hcf := pw_cell_below HB.out hcfA
    have HCFA := Lib.hid hcfA; clear hcfA
    have HCF := Lib.hid (Kd.C_below hCf HB.out); have HLF := Lib.hid hlf; have HIN := Lib.hid hin
    clear hCf hlf hin
    go_upto_region 8 with (fail)
    refine start_ (n := 11) (S := fun w' => w'.cell? ⟨w.heap.size, 0, none⟩ = some (.slice A0 a.syms.length c0) ∧ w'.cell? ⟨w.heap.size, 1, none⟩ = some (.bool a.null) ∧ w'.cell? ⟨w.heap.size, 2, none⟩ = some (.slice A2 a.first.length c2) ∧ w'.cell? ⟨w.heap.size, 3, none⟩ = some (.slice A3 a.last.length c3) ∧ w'.cell? ⟨w.heap.size, 4, none⟩ = some (.slice (some adf) a.follow.length c4) ∧ w'.cell? (adf.add p.toNat) = some (.slice Ap (Pr.rd_L7 a.follow p).length cp)) (ds := []) (S.um 11 0) (by kernel_rfl) rfl rfl ⟨k0, k1, k2, k3, k4, hcf⟩ (fun hHeld => ?_); refine with_tabW RS8.tab RS8.bits (fun HT_ HW_ => ?_)
    refine S.p 11 0 33 1 HT_.out rfl rfl ?_
    refine S.p 11 2 35 5 HT_.out rfl rfl ?_
    refine S.p 11 4 37 21 HT_.out rfl rfl ?_
    refine S.p 11 7 40 149 HT_.out rfl rfl ?_
    refine S.t 11 1 34 151 HT_.out HW_.out rfl rfl hHeld ?_
    refine S.t 11 3 36 159 HT_.out HW_.out rfl rfl hHeld ?_
    refine S.p 11 5 38 191 HT_.out rfl rfl ?_
    refine S.t 11 6 39 255 HT_.out HW_.out rfl rfl hHeld ?_
    refine S.o 11 8 41 511 HT_.out rfl rfl (fun K hK => ?_)
    have hn4 := HRA.out.n4; have hrow : (Pr.rd_L7 a.follow p).length ≤ 1024 := HRA.out.nr _ (by
     unfold Pr.rd_L7
     have := HIN.out
     rw [List.getD_eq_getElem?_getD, List.getElem?_eq_getElem (by omega)]
     exact List.getElem_mem _)
    refine S.g Tryd.func38 #[AVl a A0 c0 A2 c2 A3 c3 (some adf) c4, .slice Ap (Pr.rd_L7 a.follow p).length cp, .int .i64 s] rfl rfl ?_
    (with_reducible refine (of_calls s (Pr.rd_L7 a.follow p) Ap cp (HRA.out.below (below_drew HB.out)) (Kd.C_drew HCF.out) HLF.out (by omega)).mono ?_)
    rintro e w3 ⟨v3, rfl, hv3, hb3⟩
    obtain ⟨A5, c5, rfl⟩ := Kd.R_slice hv3
    refine ⟨_, rfl, ?_⟩
    have HO3 := Lib.hid (Kd.R_below (Kd.R_drew HO.out) hb3)
    have HB3 := Lib.hid (below_step (below_drew HB.out) hb3)
    have HY := Lib.hid (Kd.R_reads' hv3)
    have HF := Lib.hid (List.length_filter_le (ofP a s) (Pr.rd_L7 a.follow p)); have HRW := Lib.hid hrow
    refine hK.out _ _ ⟨pw_cell_below hb3 hHeld.1, pw_cell_below hb3 hHeld.2.1, pw_cell_below hb3 hHeld.2.2.1, pw_cell_below hb3 hHeld.2.2.2.1, pw_cell_below hb3 hHeld.2.2.2.2.1, pw_cell_below hb3 hHeld.2.2.2.2.2⟩ (fun hHeld => ?_); clear hK K hb3 hv3 HO HB hn4 hrow k0 k1 k2 k3 k4 hcf; refine S.w 41 ?_
    refine S.o 11 9 42 1023 HT_.out rfl rfl (fun K hK => ?_)
    refine Kd.R_append_rows_step (w0 := wA) KI (Rr := KI.K w3) wA.heap.size (by rfl) (.tmp 33) (.tmp 41) 25 3 (.int .i64 0) 8 rfl Tryd.underlying25 (by kernel_rfl) rfl (by decide) (by decide) (.slice Ar r.length cr) r ((Pr.rd_L7 a.follow p).filter (ofP a s)) A5 _ c5 (fun _ => True) (fun _ => False) rfl rfl HO3.out HY.out.2.2 (fun _ _ h => h) (fun _ hk => hk.elim) (fun _ _ => trivial) HB3.out HB3.out.size ?hlen ?_
    case hlen => have h1 := HLN.out; have h2 := HF.out; have h3 := HRW.out; have h4 := HLT.out; have h5 := HLL.out; omega
    intro v4 w4 hr4 hb4 hg4 hn4
    obtain ⟨A6, c6, rfl⟩ := Kd.R_slice hr4
    have hm4 : ∀ x, x ∈ r ++ (Pr.rd_L7 a.follow p).filter (ofP a s) ↔ stepP a (l.take (q + 1)) s x := fun x => by
     rw [List.mem_append, HM.out x, HSP.out x, List.mem_filter, ofP_iff]
     have hf : x ∈ Pr.rd_L7 a.follow p ↔ a.fol p x := ⟨fun h => ⟨HIN.out.1, HIN.out.2, h⟩, fun h => h.2.2⟩
     rw [hf]
    have hl4 : (r ++ (Pr.rd_L7 a.follow p).filter (ofP a s)).length ≤ (q + 1) * 1024 := by
     rw [List.length_append]; have h1 := HLN.out; have h2 := HF.out; have h3 := HRW.out; omega
    have HM4 := Lib.hid hm4; have HL4 := Lib.hid hl4
    clear hm4 hl4
    generalize r ++ (Pr.rd_L7 a.follow p).filter (ofP a s) = r4 at hr4 HM4 HL4 ⊢
    have HO4 := Lib.hid hr4; have HB4 := Lib.hid hb4
    obtain ⟨k0, k1, k2, k3, k4⟩ := five (blk_below HKA.out hb4)
    refine hK.out _ _ ⟨k0, k1, k2, k3, k4, pw_cell_below hb4 HCFA.out⟩ (fun hHeld => ?_); clear hK K hr4 hb4 hg4 hn4 k0 k1 k2 k3 k4; refine S.w 42 ?_
    refine S.p 11 10 7 2047 HT_.out rfl rfl ?_
    refine done_ (done_of HT_.out (by kernel_rfl)) ?_; clear HT_ HW_ hHeld
    go_wp2_with (fail)
    go_roundg (l.length - (q + 1))
    case measure => have h1 := HLT.out; have h2 := HKQ.out; omega
    case rel => exact ⟨q + 1, r4, A6, c6, rfl, by first | (rw [hw]; done) | (simp; done), Lib.hid HLT.out, Lib.hid rfl, HO4, HM4, HL4, HB4⟩
   case neg =>
    have hsame : ∀ x, x ∈ r ↔ stepP a (l.take (q + 1)) s x := fun x => by
     rw [HM.out x, HSP.out x]
     exact ⟨.inl, fun h => h.elim id (fun h => (hin ⟨h.1.1, h.1.2.1⟩).elim)⟩
    have HM2 := Lib.hid hsame
    clear hsame
    by_cases hg : p ≥ 0
    case pos =>
     have e1 : decide (p ≥ 0) = true := decide_eq_true hg
     have e2 : decide (p < (a.follow.length : Int)) = false := decide_eq_false (fun h => hin ⟨hg, h⟩)
     clear hin hg
     go_wp2_with (fail)
     go_roundg (l.length - (q + 1))
     case measure => have h1 := HLT.out; have h2 := HKQ.out; omega
     case rel => exact ⟨q + 1, r, Ar, cr, rfl, by rw [hw], Lib.hid HLT.out, Lib.hid rfl, HO, HM2, Lib.hid (by have := HLN.out; omega), HB⟩
    case neg =>
     have e1 : decide (p ≥ 0) = false := decide_eq_false hg
     clear hin hg
     go_wp2_with (fail)
     go_roundg (l.length - (q + 1))
     case measure => have h1 := HLT.out; have h2 := HKQ.out; omega
     case rel => exact ⟨q + 1, r, Ar, cr, rfl, by rw [hw], Lib.hid HLT.out, Lib.hid rfl, HO, HM2, Lib.hid (by have := HLN.out; omega), HB⟩
  case neg =>
   have hq : q = l.length := by have := HQ.out; omega
   have hd1 : decide ((q : Int) < (l.length : Int)) = false := decide_eq_false (by omega)
   have hd2 : decide (q < l.length) = false := decide_eq_false hlt
   have hm := HM.out
   rw [hq, List.take_of_length_le (Nat.le_refl _)] at hm
   have HM2 := Lib.hid hm; have HQ2 := Lib.hid hq
   clear hm hlt HM hq
   go_wp2_with (fail)
   refine (sort_own (base := wA.heap.size) _ r wr (R_ints HO.out) HB.out.size (by have h1 := HLN.out; have h2 := HQ.out; have h3 := HLL.out; omega)).mono ?_
   rintro e w5 ⟨rfl, ho5, hb5, _⟩
   have HO5 := Lib.hid ho5; have HB5 := Lib.hid (HB.out.trans hb5)
   have hsl := sortZ_length r
   have HSL := Lib.hid hsl
   clear ho5 hb5 hsl HO HB hd1 hd2
   go_wp2_with (fail)
   refine calls_of_args (args' := #[.slice Ar r.length cr]) rfl ((compact_own (base := wA.heap.size) _ (sortZ r) w5 HO5.out HB5.out.size (by rw [HSL.out]; have h1 := HLN.out; have h2 := HQ.out; have h3 := HLL.out; omega)).mono ?_)
   rintro e w6 ⟨v6, rfl, ho6, hb6, _, _⟩
   have hr6 : Kd.R KI 3 w6 wA.heap.size (fun _ => True) v6 (Lib.compact (sortZ r)) := R_of_ints ho6 (fun _ _ => trivial)
   obtain ⟨A7, c7, rfl⟩ := Kd.R_slice hr6
   have HR6 := Lib.hid hr6; have HB6 := Lib.hid (HB5.out.trans hb6)
   have hmc : ∀ x, x ∈ Lib.compact (sortZ r) ↔ stepP a l s x := fun x => by rw [mem_compact, mem_sortZ]; exact HM2.out x
   have hlc : (Lib.compact (sortZ r)).length ≤ 1024 := by
    refine compact_sort_len r 1024 (fun x hx => ?_)
    obtain ⟨_, _, _, h2, _⟩ := (HM2.out x).1 hx
    have := HRA.out.n0
    unfold AD.in_ at h2
    omega
   have HMC := Lib.hid hmc; have HLC := Lib.hid hlc
   clear hr6 ho6 hb6 hmc hlc HO5 HB5
   go_wp2_with (fail)
   generalize Lib.compact (sortZ r) = rr at HR6 HMC HLC ⊢
   refine (clip_calls A7 rr.length c7 w6 (Kd.R_reads' HR6.out).2.1).mono ?_
   rintro e w7 ⟨rfl, rfl⟩
   go_wp2_with (fail)
   go_ret
   exact ⟨_, rr, rfl, ⟨A7, rr.length, rfl, Nat.le_refl _, (Kd.V_at (Kd.R_V (base' := 0) HR6.out)).2.2⟩, HMC.out, HLC.out, HBY.out.trans (HB6.out.mono HBY.out.size)⟩
end
end Go.Proofs.YthocjdlcopmhiaaDoor.G
namespace Go.Proofs.YthocjdlcopmhiaaDoor.G
open Go.RowKit Go.Proofs.YthocjdlcopmhiaaDoorW.PrintWords Go.Proofs.YthocjdlcopmhiaaDoorW.PrintLast Go.Proofs.YthocjdlcopmhiaaDoorW.PrintMore
attribute [local go_sem] max2_int min2_int max_two min_two max_three min_three max_four min_four
set_option linter.unusedVariables false
set_option linter.unusedSimpArgs false
section
variable {w : World} {a : AD} {A0 : Option Addr} {c0 : Nat} {A2 : Option Addr} {c2 : Nat} {A3 : Option Addr} {c3 : Nat} {A4 : Option Addr} {c4 : Nat}
set_option maxHeartbeats 8000000 in
set_option maxRecDepth 100000 in
theorem autoWord_calls (ws : List Int) (Aw : Option Addr) (cw : Nat) (hr : ARead w a A0 c0 A2 c2 A3 c3 A4 c4) (hw : Kd.C KI w Aw ws.length ws) (hwc : ws.length ≤ cw) (hn : ws.length < 1048576) :
  Calls Tryd.prog 11 #[AVl a A0 c0 A2 c2 A3 c3 A4 c4, .slice Aw ws.length cw] w fun e w' => ∃ b : Bool, e = .returned (.bool b) ∧ (b = true ↔ a.acc ws) ∧ Below w.heap.size w w' := by
 have hu33 := Tryd.underlying33
 have HR := Lib.hid hr; have HW := Lib.hid hw; have HN := Lib.hid hn
 clear hr hw hn hwc
 go_enter Tryd.func11, Tryd.ntmps11
 go_wp2_with (fail)
 have hby := below_alloc (Below.refl w.heap.size w) (AB a A0 c0 A2 c2 A3 c3 A4 c4)
 have KA : (w.alloc (AB a A0 c0 A2 c2 A3 c3 A4 c4)).heap[w.heap.size]? = some (AB a A0 c0 A2 c2 A3 c3 A4 c4) := blk_new w _
 generalize w.alloc (AB a A0 c0 A2 c2 A3 c3 A4 c4) = wA at hby KA ⊢
 have HBY := Lib.hid hby; have HKA := Lib.hid KA; have HRA := Lib.hid (HR.out.below hby); have HWA := Lib.hid (Kd.C_below HW.out hby)
 clear hby KA HR HW
 -- what is held ahead of letter q
 go_loopg [5, 10] ws.length (fun kq v5 v10 w' => ∃ (q : Nat) (A5 : Option Addr) (n5 c5 : Nat), v5 = .slice A5 n5 c5 ∧ v10 = .int .i64 q ∧ Hid (q ≤ ws.length) ∧ Hid (kq = ws.length - q) ∧ Hid (Below wA.heap.size wA w') ∧ Hid ((q = 0 ∧ A5 = none ∧ n5 = 0 ∧ c5 = 0) ∨ (0 < q ∧ ∃ r : List Int, 0 < n5 ∧ n5 = r.length ∧ r.length ≤ 1024 ∧ Kd.C KI w' A5 r.length r ∧ (a.acc ws ↔ ∃ p ∈ r, a.tail (ws.drop q) p))))
 case atStart => exact ⟨0, none, 0, 0, rfl, rfl, Lib.hid (Nat.zero_le _), Lib.hid rfl, Lib.hid (Below.refl _ _), Lib.hid (.inl ⟨rfl, rfl, rfl, rfl⟩)⟩
 case round =>
  obtain ⟨q, A5, n5, c5, rfl, rfl, HQ, HKQ, HB, HS⟩ := hrel
  by_cases hlt : q < ws.length
  case pos =>
   have hd1 : decide ((q : Int) < (ws.length : Int)) = true := decide_eq_true (by omega)
   have hd2 : decide (q < ws.length) = true := decide_eq_true hlt
   have hp0 : (0 ≤ (q : Int)) = True := eq_true (by omega)
   have hp1 : ((q : Int) < (ws.length : Int)) = True := eq_true (by omega)
   have hp2 : (q < ws.length) = True := eq_true hlt
   obtain ⟨adw, rfl, hcl⟩ := Kd.at_int (Kd.C_below HWA.out HB.out) (q : Int) (by omega) (by omega)
   rw [rd_getD_, Int.toNat_natCast] at hcl
   have hww : wrap64 ((q : Int) + 1) = ((q + 1 : Nat) : Int) := by have := HN.out; unfold wrap64; omega
   have hdr : ws.drop q = ws.getD q 0 :: ws.drop (q + 1) := by rw [List.drop_eq_getElem_cons hlt, List.getD_eq_getElem?_getD, List.getElem?_eq_getElem hlt]; rfl
   generalize ws.getD q 0 = s at hcl hdr
   have HDR := Lib.hid hdr; have HLT := Lib.hid hlt
   have HKq := Lib.hid (blk_below HKA.out HB.out)
   obtain ⟨k0, k1, k2, k3, k4⟩ := five HKq.out
   clear hlt hdr
   rcases HS.out with ⟨hq0, rfl, rfl, rfl⟩ | ⟨hq0, r, hn5, rfl, hrl, hrc, hacc⟩
   case inl =>
    have HQ0 := Lib.hid hq0
    clear hq0 HS
    go_wp2_with (fail)
    refine (step_nil s (HRA.out.below HB.out)).mono ?_
    rintro e w3 ⟨v3, r', rfl, hr3, hm3, hl3, hb3⟩
    obtain ⟨A6, c6, rfl⟩ := Kd.R_slice hr3
    have hc3 := (Kd.R_reads' hr3).2.2
    have hacc : a.acc ws ↔ ∃ p ∈ r', a.tail (ws.drop (q + 1)) p := by
     have h1 := HDR.out
     rw [HQ0.out, List.drop_zero] at h1
     rw [HQ0.out, h1]
     unfold AD.acc
     constructor
     ·rintro ⟨p, h2, h3, h4, h5⟩
      exact ⟨p, (hm3 p).2 ⟨h2, h3, h4⟩, by simpa using h5⟩
     ·rintro ⟨p, h2, h3⟩
      obtain ⟨h4, h5, h6⟩ := (hm3 p).1 h2
      exact ⟨p, h4, h5, h6, by simpa using h3⟩
    have HC3 := Lib.hid hc3; have HB3 := Lib.hid (below_step HB.out hb3); have HACC := Lib.hid hacc; have HL3 := Lib.hid hl3
    clear hr3 hm3 hc3 hacc hb3 hl3 hcl k0 k1 k2 k3 k4 HB
    generalize hn6 : r'.length = n6 at HC3 HL3 ⊢
    have HN6 := Lib.hid hn6
    by_cases hr0 : n6 = 0
    case pos =>
     have hb : ((n6 : Int) == 0) = true := by simp [hr0]
     have hb2 : (n6 == 0) = true := by simp [hr0]
     have HR0 := Lib.hid hr0
     clear hr0 hn6
     go_wp2_with (fail)
     go_ret
     exact ⟨false, rfl, ⟨fun h => (by cases h), fun h => (by obtain ⟨p, hp, _⟩ := HACC.out.1 h; rw [List.eq_nil_of_length_eq_zero (HN6.out.trans HR0.out)] at hp; cases hp)⟩, HBY.out.trans (HB3.out.mono HBY.out.size)⟩
    case neg =>
     have hb : ((n6 : Int) == 0) = false := by simp; omega
     have hb2 : (n6 == 0) = false := by simpa using hr0
     have HR0 := Lib.hid hr0
     clear hr0 hn6
     go_wp2_with (fail)
     go_roundg (ws.length - (q + 1))
     case measure => have h1 := HLT.out; have h2 := HKQ.out; omega
     case rel => exact ⟨q + 1, A6, n6, c6, rfl, by first | (rw [hww]; done) | (simp; done), Lib.hid HLT.out, Lib.hid rfl, HB3, Lib.hid (.inr ⟨by omega, r', by have := HR0.out; omega, HN6.out.symm, by have h1 := HN6.out; have h2 := HL3.out; omega, by rw [HN6.out]; exact HC3.out, HACC.out⟩)⟩
   case inr =>
    obtain ⟨ad5, rfl, _⟩ := Kd.at_int hrc 0 (by omega) (by omega)
    have HHC := Lib.hid hrc; have HHA := Lib.hid hacc; have HRL := Lib.hid hrl; have HN5 := Lib.hid hn5
    clear hq0 HS hrc hacc hrl hn5
    go_wp2_with (fail)
    refine (step_from r ad5 c5 s (HRA.out.below HB.out) HHC.out HRL.out).mono ?_
    rintro e w3 ⟨v3, r', rfl, hr3, hm3, hl3, hb3⟩
    obtain ⟨A6, c6, rfl⟩ := Kd.V_slice hr3
    have hc3 := (Kd.V_reads' hr3).2.2
    have hacc : a.acc ws ↔ ∃ p ∈ r', a.tail (ws.drop (q + 1)) p := by
     rw [HHA.out, HDR.out]
     constructor
     ·rintro ⟨p, hp, x, h1, h2, h3, h4⟩
      exact ⟨x, (hm3 x).2 ⟨p, hp, h1, h2, h3⟩, h4⟩
     ·rintro ⟨x, hx, h4⟩
      obtain ⟨p, hp, h1, h2, h3⟩ := (hm3 x).1 hx
      exact ⟨p, hp, x, h1, h2, h3, h4⟩
    have HC3 := Lib.hid hc3; have HB3 := Lib.hid (below_step HB.out hb3); have HACC := Lib.hid hacc; have HL3 := Lib.hid hl3
    clear hr3 hm3 hc3 hacc hb3 hl3 hcl k0 k1 k2 k3 k4 HB
    generalize hn6 : r'.length = n6 at HC3 HL3 ⊢
    have HN6 := Lib.hid hn6
    by_cases hr0 : n6 = 0
    case pos =>
     have hb : ((n6 : Int) == 0) = true := by simp [hr0]
     have hb2 : (n6 == 0) = true := by simp [hr0]
     have HR0 := Lib.hid hr0
     clear hr0 hn6
     go_wp2_with (fail)
     go_ret
     exact ⟨false, rfl, ⟨fun h => (by cases h), fun h => (by obtain ⟨p, hp, _⟩ := HACC.out.1 h; rw [List.eq_nil_of_length_eq_zero (HN6.out.trans HR0.out)] at hp; cases hp)⟩, HBY.out.trans (HB3.out.mono HBY.out.size)⟩
    case neg =>
     have hb : ((n6 : Int) == 0) = false := by simp; omega
     have hb2 : (n6 == 0) = false := by simpa using hr0
     have HR0 := Lib.hid hr0
     clear hr0 hn6
     go_wp2_with (fail)
     go_roundg (ws.length - (q + 1))
     case measure => have h1 := HLT.out; have h2 := HKQ.out; omega
     case rel => exact ⟨q + 1, A6, n6, c6, rfl, by first | (rw [hww]; done) | (simp; done), Lib.hid HLT.out, Lib.hid rfl, HB3, Lib.hid (.inr ⟨by omega, r', by have := HR0.out; omega, HN6.out.symm, by have h1 := HN6.out; have h2 := HL3.out; omega, by rw [HN6.out]; exact HC3.out, HACC.out⟩)⟩
  case neg =>
   have hq : q = ws.length := by have := HQ.out; omega
   have hd1 : decide ((q : Int) < (ws.length : Int)) = false := decide_eq_false (by omega)
   have hd2 : decide (q < ws.length) = false := decide_eq_false hlt
   have HQQ := Lib.hid hq
   have HKq := Lib.hid (blk_below HKA.out HB.out)
   obtain ⟨k0, k1, k2, k3, k4⟩ := five HKq.out
   clear hlt hq
   rcases HS.out with ⟨hq0, rfl, rfl, rfl⟩ | ⟨hq0, r, hn5, rfl, hrl, hrc, hacc⟩
   case inl =>
    have HQ0 := Lib.hid hq0
    clear hq0 HS
    go_wp2_with (fail)
    refine (ends_nil (HRA.out.below HB.out)).mono ?_
    rintro e w3 ⟨rfl, hb3⟩
    have HB3 := Lib.hid (below_step HB.out hb3)
    clear hb3 HB k0 k1 k2 k3 k4 hd1 hd2
    go_wp2_with (fail)
    go_ret
    have hws : ws = [] := List.eq_nil_of_length_eq_zero (HQQ.out.symm.trans HQ0.out)
    exact ⟨a.null, rfl, by rw [hws]; exact Iff.rfl, HBY.out.trans (HB3.out.mono HBY.out.size)⟩
   case inr =>
    obtain ⟨ad5, rfl, _⟩ := Kd.at_int hrc 0 (by omega) (by omega)
    have HHC := Lib.hid hrc; have HHA := Lib.hid hacc; have HRL := Lib.hid hrl; have HN5 := Lib.hid hn5
    clear hq0 HS hrc hacc hrl hn5
    go_wp2_with (fail)
    refine (ends_calls r ad5 c5 (HRA.out.below HB.out) HHC.out (by have := HRL.out; omega)).mono ?_
    rintro e w3 ⟨b, rfl, hb2, hb3⟩
    have HB3 := Lib.hid (below_step HB.out hb3); have HBB := Lib.hid hb2
    clear hb3 HB k0 k1 k2 k3 k4 hd1 hd2 hb2
    go_wp2_with (fail)
    go_ret
    refine ⟨b, rfl, ?_, HBY.out.trans (HB3.out.mono HBY.out.size)⟩
    rw [HHA.out, HQQ.out, List.drop_length]
    exact HBB.out
end
end Go.Proofs.YthocjdlcopmhiaaDoor.G
namespace Go.Proofs.YthocjdlcopmhiaaDoor.G
open Go.RowKit Go.Proofs.YthocjdlcopmhiaaDoorW.PrintWords Go.Proofs.YthocjdlcopmhiaaDoorW.PrintLast Go.Proofs.YthocjdlcopmhiaaDoorW.PrintMore
attribute [local go_sem] max2_int min2_int max_two min_two max_three min_three max_four min_four
set_option linter.unusedVariables false
set_option linter.unusedSimpArgs false
theorem KInt : Maps.Keyed Tryd.prog 3 := Maps.int_keyed Tryd.underlying3
theorem look_run0 {k t e : TypeId} {w : World} {b : Nat} {es : Array MapEntry} {clock : Nat} {z key : Value} {kl : Lit} (K : Maps.Keyed Tryd.prog k) (ht : Tryd.prog.underlying t = some (.map k e)) (hz : (zeroValue e).run Tryd.prog w = .ok z w)
  (hb : w.heap[b]? = some (.map es clock)) (hk : KeysOk k es) (hkey : keyOf Tryd.prog k key = some kl) :
  ((Instr.lookup t (.map (some b)) key false).run Tryd.prog w = .ok z w ∧ ∀ x ∈ es.toList, x.key ≠ key) ∨ ∃ e0, e0 ∈ es.toList ∧ e0.key = key ∧ (Instr.lookup t (.map (some b)) key false).run Tryd.prog w = .ok e0.val w := by
 rcases K.find w hkey es.toList hk with ⟨h1, h2⟩ | ⟨j, e0, h1, h2, h3⟩
 ·exact .inl ⟨by simp [Instr.lookup, run_underlying ht, MapKept.run_getObj_map hb, K.check w _ hkey, h1, hz, Result.andThen], h2⟩
 ·exact .inr ⟨e0, List.mem_of_getElem? h2, h3, by simp [Instr.lookup, run_underlying ht, MapKept.run_getObj_map hb, K.check w _ hkey, h1, Result.andThen]⟩
def Seen (w : World) (bm : Nat) (S : List Int) : Prop := ∃ es clock, w.heap[bm]? = some (.map es clock) ∧ KeysOk 3 es ∧ (∀ x : Int, x ∈ S ↔ ∃ e ∈ es.toList, e.key = .int .i64 x) ∧ ∀ e ∈ es.toList, e.val = .bool true
theorem Seen.below {w w' : World} {bm : Nat} {S : List Int} (h : Seen w bm S) (hb : Below w.heap.size w w') : Seen w' bm S := by
 obtain ⟨es, clock, h1, h2⟩ := h
 exact ⟨es, clock, blk_below h1 hb, h2⟩
theorem Seen.grown {w w' : World} {bm : Nat} {S : List Int} {row : Option Nat} (h : Seen w bm S) (hb : w.grownBy w' row) (hne : some bm ≠ row) : Seen w' bm S := by
 obtain ⟨es, clock, h1, h2⟩ := h
 exact ⟨es, clock, blk_grown h1 hb hne, h2⟩
theorem Seen.look {w : World} {bm : Nat} {S : List Int} (h : Seen w bm S) (x : Int) (h0 : 0 ≤ x) (h1 : x < 4611686018427387904) : (Instr.lookup 69 (.map (some bm)) (.int .i64 x) false).run Tryd.prog w = .ok (.bool (decide (x ∈ S))) w := by
 obtain ⟨es, clock, hb, hk, hs, hv⟩ := h
 rcases look_run0 KInt Tryd.underlying69 (show (zeroValue 4).run Tryd.prog w = .ok (.bool false) w by kernel_rfl) hb hk (Maps.keyOf_int_mk Tryd.underlying3 (wf64 h0 h1)) with ⟨h2, h3⟩ | ⟨e0, h2, h3, h4⟩
 ·have : x ∉ S := fun hx => by
   obtain ⟨e, he, hke⟩ := (hs x).1 hx
   exact h3 e he hke
  rw [h2]; simp [this]
 ·have : x ∈ S := (hs x).2 ⟨e0, h2, h3⟩
  rw [h4, hv e0 h2]; simp [this]
theorem Seen.put {w : World} {bm : Nat} {S : List Int} (h : Seen w bm S) (x : Int) (h0 : 0 ≤ x) (h1 : x < 4611686018427387904) : ∃ w', (Instr.mapUpdate 69 (.map (some bm)) (.int .i64 x) (.bool true)).run Tryd.prog w = .ok () w' ∧ Seen w' bm (x :: S) ∧ w.grownBy w' (some bm) := by
 obtain ⟨es, clock, hb, hk, hs, hv⟩ := h
 have hkey := Maps.keyOf_int_mk Tryd.underlying3 (wf64 h0 h1)
 obtain ⟨es', clock', w', hr, ht, hb', he, ho, hn, _⟩ := put_run (val := .bool true) KInt Tryd.underlying69 hb hk hkey
 refine ⟨w', hr, ⟨es', clock', hb', fun e hem => ?_, fun y => ?_, fun e hem => ?_⟩, ht.grown⟩
 ·rcases he e hem with h2 | ⟨h2, _⟩
  ·exact hk e h2
  ·exact ⟨_, by rw [h2]; exact hkey⟩
 ·rw [List.mem_cons]
  constructor
  ·rintro (rfl | hy)
   ·exact hn
   ·obtain ⟨e, h2, h3⟩ := (hs y).1 hy
    obtain ⟨e', h4, h5⟩ := ho e h2
    exact ⟨e', h4, h5.trans h3⟩
  ·rintro ⟨e, h2, h3⟩
   rcases he e h2 with h4 | ⟨h4, _⟩
   ·exact .inr ((hs y).2 ⟨e, h4, h3⟩)
   ·rw [h4] at h3
    injection h3 with _ h5
    exact .inl h5.symm
 ·rcases he e hem with h2 | ⟨_, h2⟩
  ·exact hv e h2
  ·exact h2
inductive AD.Reach (a : AD) : Int → Prop
 | first (q : Int) : q ∈ a.first → a.in_ q → AD.Reach a q
 | step (p q : Int) : AD.Reach a p → a.fol p q → a.in_ q → AD.Reach a q
def AD.live (a : AD) : Prop := a.null = true ∨ ∃ p, a.Reach p ∧ p ∈ a.last
structure LInv (a : AD) (S l : List Int) : Prop where
 i1 : ∀ x ∈ S, a.Reach x ∧ x ∉ a.last
 i2 : ∀ x ∈ l, a.in_ x → a.Reach x
 i3 : ∀ x ∈ a.first, a.in_ x → x ∈ S ∨ x ∈ l
 i4 : ∀ p ∈ S, ∀ x, a.fol p x → a.in_ x → x ∈ S ∨ x ∈ l
 i5 : ∀ x ∈ l, 0 ≤ x ∧ x < 1024
theorem LInv.done {a : AD} {S : List Int} (h : LInv a S []) : ¬ ∃ p, a.Reach p ∧ p ∈ a.last := by
 have key : ∀ p, a.Reach p → p ∈ S := fun p hp => by
  induction hp with
  | first q h1 h2 => exact (h.i3 q h1 h2).elim id (fun h => by cases h)
  | step p q _ h1 h2 ih => exact (h.i4 p ih q h1 h2).elim id (fun h => by cases h)
 rintro ⟨p, h1, h2⟩
 exact (h.i1 p (key p h1)).2 h2
theorem LInv.drop {a : AD} {S l : List Int} {i : Int} (h : LInv a S (l ++ [i])) (hi : i ∈ S ∨ ¬ a.in_ i) : LInv a S l := by
 refine ⟨h.i1, fun x hx => h.i2 x (List.mem_append_left _ hx), fun x hx hin => ?_, fun p hp x hf hin => ?_, fun x hx => h.i5 x (List.mem_append_left _ hx)⟩
 ·rcases h.i3 x hx hin with h1 | h1
  ·exact .inl h1
  ·rcases List.mem_append.1 h1 with h1 | h1
   ·exact .inr h1
   ·rw [List.mem_singleton] at h1; subst h1
    exact hi.elim .inl (fun h => (h hin).elim)
 ·rcases h.i4 p hp x hf hin with h1 | h1
  ·exact .inl h1
  ·rcases List.mem_append.1 h1 with h1 | h1
   ·exact .inr h1
   ·rw [List.mem_singleton] at h1; subst h1
    exact hi.elim .inl (fun h => (h hin).elim)
theorem LInv.mark {a : AD} {S l : List Int} {i : Int} (h : LInv a S (l ++ [i])) (hin : a.in_ i) (hl : i ∉ a.last) (r : List Int) (hr : ∀ x, x ∈ r ↔ a.fol i x) (hr5 : ∀ x ∈ r, 0 ≤ x ∧ x < 1024) : LInv a (i :: S) (l ++ r) := by
 have hri : a.Reach i := h.i2 i (List.mem_append_right _ (List.mem_singleton.2 rfl)) hin
 have mv : ∀ x, x ∈ S ∨ x ∈ l ++ [i] → x ∈ i :: S ∨ x ∈ l ++ r := fun x hx => by
  rcases hx with h1 | h1
  ·exact .inl (List.mem_cons_of_mem _ h1)
  ·rcases List.mem_append.1 h1 with h1 | h1
   ·exact .inr (List.mem_append_left _ h1)
   ·exact .inl (by rw [List.mem_singleton] at h1; rw [h1]; exact List.mem_cons_self)
 refine ⟨fun x hx => ?_, fun x hx hxin => ?_, fun x hx hxin => mv x (h.i3 x hx hxin), fun p hp x hf hxin => ?_, fun x hx => ?_⟩
 ·rcases List.mem_cons.1 hx with rfl | hx
  ·exact ⟨hri, hl⟩
  ·exact h.i1 x hx
 ·rcases List.mem_append.1 hx with hx | hx
  ·exact h.i2 x (List.mem_append_left _ hx) hxin
  ·exact .step i x hri ((hr x).1 hx) hxin
 ·rcases List.mem_cons.1 hp with rfl | hp
  ·exact .inr (List.mem_append_right _ ((hr x).2 hf))
  ·exact mv x (h.i4 p hp x hf hxin)
 ·rcases List.mem_append.1 hx with hx | hx
  ·exact h.i5 x (List.mem_append_left _ hx)
  ·exact hr5 x hx
set_option maxRecDepth 100000 in
theorem slice_toI (gl len vc : Nat) (x : Int) (h0 : 0 ≤ x) (h1 : x ≤ (vc : Int)) (wx : World) : (Instr.sliceAt 25 (.slice (some ⟨gl, 0, none⟩) len vc) none (some (.int .i64 x)) none).run Tryd.prog wx = .ok (.slice (some ⟨gl, 0, none⟩) x.toNat vc) wx := by
 have hu := Tryd.underlying25
 have hu3 := Tryd.underlying3
 rw [run_sliceAt_slice (h := hu), run_slice_h (ht := hu) (h0 := h0) (h2 := h1)]
 simp [go_sem]
section
variable {w : World} {a : AD} {A0 : Option Addr} {c0 : Nat} {A2 : Option Addr} {c2 : Nat} {A3 : Option Addr} {c3 : Nat} {A4 : Option Addr} {c4 : Nat}
set_option maxHeartbeats 8000000 in
set_option maxRecDepth 100000 in
theorem live_calls (hr : ARead w a A0 c0 A2 c2 A3 c3 A4 c4) (hf : ∀ x ∈ a.first, 0 ≤ x ∧ x < 1024) (ho : ∀ r ∈ a.follow, ∀ x ∈ r, 0 ≤ x ∧ x < 1024) :
  Calls Tryd.prog 12 #[AVl a A0 c0 A2 c2 A3 c3 A4 c4] w fun e w' => ∃ b : Bool, e = .returned (.bool b) ∧ (b = true ↔ a.live) ∧ Below w.heap.size w w' := by
 have hu33 := Tryd.underlying33
 have HR := Lib.hid hr; have HF := Lib.hid hf; have HO := Lib.hid ho
 clear hr hf ho
 go_enter Tryd.func12, Tryd.ntmps12
 go_upto_region 1 with (fail)
 have hby := below_alloc (Below.refl w.heap.size w) (AB a A0 c0 A2 c2 A3 c3 A4 c4)
 have KA : (w.alloc (AB a A0 c0 A2 c2 A3 c3 A4 c4)).heap[w.heap.size]? = some (AB a A0 c0 A2 c2 A3 c3 A4 c4) := blk_new w _
 have hsz : (w.alloc (AB a A0 c0 A2 c2 A3 c3 A4 c4)).heap.size = w.heap.size + 1 := by simp
 generalize w.alloc (AB a A0 c0 A2 c2 A3 c3 A4 c4) = wA at hby KA hsz ⊢
 have hmk : (Instr.makeMap 69 none).run Tryd.prog wA = .ok (.map (some wA.heap.size)) (wA.alloc (.map #[] 0)) := by rfl
 go_upto_region 2 with (fail)
 clear hmk
 have hb2 := below_alloc (Below.refl wA.heap.size wA) (.map #[] 0)
 have KM : (wA.alloc (.map #[] 0)).heap[wA.heap.size]? = some (.map #[] 0) := blk_new wA _
 rw [hsz] at KM
 generalize wA.alloc (.map #[] 0) = wB at hb2 KM ⊢
 have HBB := Lib.hid (below_step hby hb2); have KAB := Lib.hid (blk_below KA hb2)
 have hseen : Seen wB (w.heap.size + 1) [] := ⟨#[], 0, KM, fun x hx => by simp at hx, fun x => by simp, fun e he => by simp at he⟩
 have HSN := Lib.hid hseen
 clear hby KA hb2 KM hseen hsz
 obtain ⟨k0, k1, k2, k3, k4⟩ := five KAB.out
 go_wp2_with (fail)
 clear k0 k1 k2 k3 k4
 have hcl : slices_Clone_int.f a.first = some a.first := by unfold slices_Clone_int.f; rw [if_pos (by have := HR.out.n2; omega)]
 refine (slices_Clone_int.calls A2 c2 a.first _ wB (HR.out.below HBB.out).f HR.out.f' hcl).mono ?_
 clear hcl
 rintro e wC ⟨v4, rfl, hv4, hb4⟩
 have HSC := Lib.hid (HSN.out.below hb4); have KAC := Lib.hid (blk_below KAB.out hb4); have HBC := Lib.hid (below_step HBB.out hb4)
 have hltB : w.heap.size + 1 < wB.heap.size := by obtain ⟨_, _, h, _⟩ := HSN.out; exact blk_lt h
 have HRC := Lib.hid (Kd.R_lower (base' := w.heap.size + 2) hv4 (by omega))
 obtain ⟨Al, cl, rfl⟩ := Kd.R_slice HRC.out
 have HINV : Hid (LInv a [] a.first) := Lib.hid ⟨fun x hx => (by cases hx), fun x hx hin => .first x hx hin, fun x hx _ => .inr hx, fun p hp => (by cases hp), HF.out⟩
 clear hv4 hb4 hltB HSN KAB HBB
 go_wp2_with (fail)
 go_loopg [4] (a.first.length + 1025 * miss (fun j => (j : Int) ∈ ([] : List Int)) a.syms.length) (fun kq v4 w' => ∃ (S l : List Int) (Al : Option Addr) (cl : Nat), v4 = .slice Al l.length cl ∧ Hid (LInv a S l) ∧ Hid (kq = l.length + 1025 * miss (fun j => (j : Int) ∈ S) a.syms.length) ∧ Hid (l.length + 1025 * miss (fun j => (j : Int) ∈ S) a.syms.length ≤ 2097152) ∧ Hid (Kd.R KI 3 w' (w.heap.size + 2) (fun _ => True) (.slice Al l.length cl) l) ∧ Hid (Seen w' (w.heap.size + 1) S) ∧ Hid (w'.heap[w.heap.size]? = some (AB a A0 c0 A2 c2 A3 c3 A4 c4)) ∧ Hid (Below w.heap.size w w'))
 case atStart => exact ⟨[], a.first, Al, cl, rfl, HINV, Lib.hid rfl, Lib.hid (by have h1 := miss_all (fun j => (j : Int) ∈ ([] : List Int)) a.syms.length; have h2 := HR.out.n2; have h3 := HR.out.n0; omega), HRC, HSC, KAC, HBC⟩
 case round =>
  obtain ⟨S, l, Al, cl, rfl, HI, HKQ, HM, HRl, HS, HK, HB⟩ := hrel
  clear HINV HRC HSC KAC HBC
  obtain ⟨k0, k1, k2, k3, k4⟩ := five HK.out
  rcases List.eq_nil_or_concat l with hnil | ⟨l', i, hcat⟩
  case inl =>
   subst hnil
   have hd := HI.out.done
   have HD := Lib.hid hd
   clear hd
   go_wp2_with (fail)
   go_ret
   exact ⟨a.null, rfl, ⟨.inl, fun h => h.elim id (fun h => (HD.out h).elim)⟩, HB.out⟩
  case inr =>
   rw [List.concat_eq_append] at hcat
   subst hcat
   have hln : (l' ++ [i]).length = l'.length + 1 := by simp
   have HLN := Lib.hid hln
   obtain ⟨g, cl', hsl, hgb, hglt, _⟩ := Kd.R_form HRl.out (by rw [hln]; omega)
   injection hsl with h1 h2 h3
   subst h1; subst h3
   obtain ⟨hcl, _⟩ := Kd.R_cell 0 HRl.out (l'.length : Int) (by omega) (by rw [hln]; omega)
   rw [Int.toNat_natCast, show rdOf 0 (l' ++ [i]) (l'.length : Int) = i from by unfold rdOf; rw [Int.toNat_natCast, List.getD_eq_getElem?_getD, List.getElem?_append_right (by omega)]; simp] at hcl
   have hcap : l'.length + 1 ≤ cl := by have := (Kd.R_reads' HRl.out).2.1; rw [hln] at this; exact this
   have hrt : Kd.R KI 3 wr (w.heap.size + 2) (fun _ => True) (.slice (some ⟨g, 0, none⟩) l'.length cl) l' := by
    have := Kd.R_take HRl.out (m := l'.length) (by rw [hln]; omega)
    rwa [List.take_left'] at this
    rfl
   have HRt := Lib.hid hrt
   have hcut := fun wx => slice_toI g (l'.length + 1) cl (l'.length : Int) (by omega) (by omega) wx
   have h5 := HI.out.i5 i (List.mem_append_right _ (List.mem_singleton.2 rfl))
   have H5 := Lib.hid h5
   have hlook := HS.out.look i h5.1 (by omega)
   rw [hln] at HM ⊢
   have hbnd : l'.length < 4194304 := by have := HM.out; omega
   generalize hm : l'.length = m at hcl hcap hcut hbnd ⊢
   have HMM := Lib.hid hm
   rw [Int.toNat_natCast] at hcut
   have hp0 : (0 ≤ (m : Int)) = True := eq_true (by omega)
   have hp1 : ((m : Int) < (m : Int) + 1) = True := eq_true (by omega)
   have hgt : decide ((m : Int) + 1 > 0) = true := decide_eq_true (by omega)
   have hww : wrap64 ((m : Int) + 1 - 1) = (m : Int) := by unfold wrap64; omega
   have hww2 : wrap64 (m : Int) = (m : Int) := by unfold wrap64; omega
   have hneg : decide (i < 0) = false := decide_eq_false (by omega)
   clear hln hrt hgb hglt hcap h5 hm hbnd
   by_cases his : i ∈ S
   case pos =>
    rw [decide_eq_true his] at hlook
    have HDROP := Or.inl (b := ¬ a.in_ i) his
    clear his
    go_wp2_with (fail)
    go_roundg (m + 1025 * miss (fun j => (j : Int) ∈ S) a.syms.length)
    case measure => have h2 := HKQ.out; rw [HLN.out, HMM.out] at h2; omega
    case rel => exact ⟨S, l', some ⟨g, 0, none⟩, cl, by rw [HMM.out], Lib.hid (LInv.drop HI.out HDROP), Lib.hid (by rw [HMM.out]), Lib.hid (by have h2 := HM.out; rw [HMM.out] at h2 ⊢; omega), Lib.hid (by rw [HMM.out]; have h := HRt.out; rw [HMM.out] at h; exact h), HS, HK, HB⟩
   case neg =>
    rw [decide_eq_false his] at hlook
    by_cases hge : i < (a.syms.length : Int)
    case neg =>
     have e1 : decide (i ≥ (a.syms.length : Int)) = true := decide_eq_true (by omega)
     have HDROP := Or.inr (a := i ∈ S) (show ¬ a.in_ i from fun h => hge h.2)
     clear his hge
     go_wp2_with (fail)
     go_roundg (m + 1025 * miss (fun j => (j : Int) ∈ S) a.syms.length)
     case measure => have h2 := HKQ.out; rw [HLN.out, HMM.out] at h2; omega
     case rel => exact ⟨S, l', some ⟨g, 0, none⟩, cl, by rw [HMM.out], Lib.hid (LInv.drop HI.out HDROP), Lib.hid (by rw [HMM.out]), Lib.hid (by have h2 := HM.out; rw [HMM.out] at h2 ⊢; omega), Lib.hid (by rw [HMM.out]; have h := HRt.out; rw [HMM.out] at h; exact h), HS, HK, HB⟩
    case pos =>
     have e1 : decide (i ≥ (a.syms.length : Int)) = false := decide_eq_false (by omega)
     obtain ⟨w3, hput, hs3, hg3⟩ := HS.out.put i H5.out.1 (by have := H5.out.2; omega)
     have hin : a.in_ i := ⟨H5.out.1, hge⟩
     have hmiss : miss (fun j => (j : Int) ∈ i :: S) a.syms.length < miss (fun j => (j : Int) ∈ S) a.syms.length := miss_lt _ (fun j _ h => List.mem_cons_of_mem _ h) ⟨i.toNat, by have := H5.out.1; omega, by rw [show ((i.toNat : Nat) : Int) = i by have := H5.out.1; omega]; exact List.mem_cons_self, by rw [show ((i.toNat : Nat) : Int) = i by have := H5.out.1; omega]; exact his⟩
     have HMI := Lib.hid hmiss; have HIN := Lib.hid hin
     have HS9 := Lib.hid hs3
     have HK9 := Lib.hid (blk_grown HK.out hg3 (by simp))
     have HB9 := Lib.hid (pw_below_grown HB.out (some (w.heap.size + 1)) HB.out.size hg3 (fun k hk => by injection hk with h; omega))
     have hrt := HRt.out
     rw [HMM.out] at hrt
     have hrt3 : Kd.R KI 3 w3 (w.heap.size + 2) (fun _ => True) (.slice (some ⟨g, 0, none⟩) m cl) l' := Kd.R_grown1 hrt rfl hg3 (fun h => by
      have := Kd.R_base hrt (w.heap.size + 1) h.symm
      omega)
     have HR3 := Lib.hid hrt3
     obtain ⟨bb, hbb1, hbb2⟩ := contains_eq a.last i (by have := HR.out.n3; omega)
     have HBB := Lib.hid hbb2
     have hb3 := HB9.out
     have j3 : w3.cell? ⟨w.heap.size, 3, none⟩ = some (.slice A3 a.last.length c3) := (blk_cell HK9.out 3).trans rfl
     have j4 : w3.cell? ⟨w.heap.size, 4, none⟩ = some (.slice A4 a.follow.length c4) := (blk_cell HK9.out 4).trans rfl
     have HC1 := Lib.hid hbb1
     clear his hge hs3 hg3 hrt hrt3 hmiss hin hb3 hbb1 hbb2
     go_wp2_with (fail)
     clear hput hlook
     refine (Pr.slices_Contains_int_int.calls _ A3 c3 a.last i bb w3 (HR.out.below HB9.out).l HR.out.l' HC1.out).mono ?_
     rintro e w4 ⟨rfl, hd4⟩
     have hb4 := hd4.below
     have HS4 := Lib.hid (HS9.out.below hb4); have HK4 := Lib.hid (blk_below HK9.out hb4); have HB4 := Lib.hid (below_step HB9.out hb4); have HR4 := Lib.hid (Kd.R_below HR3.out hb4)
     clear HS9 HK9 HB9 HR3 j3 j4 hd4 hb4
     obtain ⟨m0, m1, m2, m3, m4⟩ := five HK4.out
     cases bb
     case true =>
      have hlive : a.live := .inr ⟨i, HI.out.i2 i (List.mem_append_right _ (List.mem_singleton.2 rfl)) HIN.out, HBB.out.1 (by simp)⟩
      have HLV := Lib.hid hlive
      clear hlive
      go_wp2_with (fail)
      go_ret
      exact ⟨true, rfl, ⟨fun _ => HLV.out, fun _ => rfl⟩, HB4.out⟩
     case false =>
      have hnl : i ∉ a.last := fun h => by have := HBB.out.2 h; simp at this
      have HNL := Lib.hid hnl
      clear hnl HBB
      by_cases hfo : i < (a.follow.length : Int)
      case neg =>
       have f1 : decide (i < (a.follow.length : Int)) = false := decide_eq_false hfo
       have hinv : LInv a (i :: S) l' := by
        have := LInv.mark HI.out HIN.out HNL.out [] (fun x => ⟨fun h => (by cases h), fun h => (hfo h.2.1).elim⟩) (fun x hx => (by cases hx))
        rwa [List.append_nil] at this
       have HINV2 := Lib.hid hinv
       clear hinv hfo
       go_wp2_with (fail)
       go_roundg (m + 1025 * miss (fun j => (j : Int) ∈ i :: S) a.syms.length)
       case measure => have h1 := HMI.out; have h2 := HKQ.out; rw [HLN.out, HMM.out] at h2; omega
       case rel => exact ⟨i :: S, l', some ⟨g, 0, none⟩, cl, by rw [HMM.out], HINV2, Lib.hid (by rw [HMM.out]), Lib.hid (by have h1 := HMI.out; have h2 := HM.out; rw [HMM.out] at h2 ⊢; omega), Lib.hid (by rw [HMM.out]; exact HR4.out), HS4, HK4, HB4⟩
      case pos =>
       have f1 : decide (i < (a.follow.length : Int)) = true := decide_eq_true hfo
       have f2 : (0 ≤ i) = True := eq_true H5.out.1
       have f3 : (i < (a.follow.length : Int)) = True := eq_true hfo
       obtain ⟨adf, Ap, cp, rfl, hcf, hlf, hCf⟩ := Pr.at_L7 (HR.out.below HB4.out).o i H5.out.1 hfo
       have HCF := Lib.hid hCf; have HLF := Lib.hid hlf
       have hmem : Pr.rd_L7 a.follow i ∈ a.follow := by
        unfold Pr.rd_L7
        have := H5.out.1
        rw [List.getD_eq_getElem?_getD, List.getElem?_eq_getElem (by omega)]
        exact List.getElem_mem _
       have hrow : (Pr.rd_L7 a.follow i).length ≤ 1024 := HR.out.nr _ hmem
       have hinv := LInv.mark HI.out HIN.out HNL.out (Pr.rd_L7 a.follow i) (fun x => ⟨fun h => ⟨H5.out.1, hfo, h⟩, fun h => h.2.2⟩) (HO.out _ hmem)
       have HINV2 := Lib.hid hinv; have HRW := Lib.hid hrow
       clear hinv hfo hrow hmem hCf hlf
       go_wp2_with (first | ((with_reducible refine gate_dst (N := 55) rfl ?_); refine Kd.R_append_rows (w0 := w4) KI (Rr := KI.K w4) (w.heap.size + 2) ?hg (.tmp 49) (.tmp 54) 25 3 (.int .i64 0) 8 rfl Tryd.underlying25 (by kernel_rfl) rfl (by decide) (by decide) (.slice (some ⟨g, 0, none⟩) m cl) l' (Pr.rd_L7 a.follow i) Ap _ cp (fun _ => True) (fun _ => False) rfl rfl HR4.out HCF.out (fun _ _ h => h) (fun _ hk => hk.elim) (fun _ _ => trivial) (Below.refl _ _) ?hbs ?hln ?_; (case hg => rfl); (case hbs => have := (Kd.R_lt HR4.out g rfl); have := Kd.R_base HR4.out g rfl; omega); (case hln => have h1 := HRW.out; have h2 := HM.out; omega); intro v9 w9 hr9 hb9 hg9 hn9; obtain ⟨A9, c9, rfl⟩ := Kd.R_slice hr9; have HR9 := Lib.hid hr9; have HB9 := Lib.hid hb9; have HG9 := Lib.hid hg9; clear hr9 hb9 hg9 hn9))
       have hgb : w.heap.size + 2 ≤ g := Kd.R_base HR4.out g rfl
       have hg9 : w4.grownBy w9 (some g) := HG9.out
       have HS9 := Lib.hid (HS4.out.grown hg9 (fun h => by injection h with h; omega)); have HK9 := Lib.hid (blk_grown HK4.out hg9 (fun h => by injection h with h; omega))
       have HBB9 := Lib.hid (pw_below_grown HB4.out (some g) HB4.out.size hg9 (fun k hk => by injection hk with h; omega))
       clear hgb hg9 HG9 HB9 hcf f1 f2 f3
       go_roundg ((l' ++ Pr.rd_L7 a.follow i).length + 1025 * miss (fun j => (j : Int) ∈ i :: S) a.syms.length)
       case measure => have h1 := HMI.out; have h2 := HKQ.out; have h3 := HRW.out; have h4 := HMM.out; rw [HLN.out] at h2; rw [List.length_append]; omega
       case rel => exact ⟨i :: S, l' ++ Pr.rd_L7 a.follow i, A9, c9, by rw [List.length_append], HINV2, Lib.hid rfl, Lib.hid (by have h1 := HMI.out; have h2 := HM.out; have h3 := HRW.out; have h4 := HMM.out; rw [List.length_append]; omega), HR9, HS9, HK9, HBB9⟩
end
end Go.Proofs.YthocjdlcopmhiaaDoor.G
namespace Go.Proofs.YthocjdlcopmhiaaDoor.G
open Go.RowKit Go.Proofs.YthocjdlcopmhiaaDoorW.PrintWords Go.Proofs.YthocjdlcopmhiaaDoorW.PrintLast Go.Proofs.YthocjdlcopmhiaaDoorW.PrintMore
attribute [local go_sem] max2_int min2_int max_two min_two max_three min_three max_four min_four
set_option linter.unusedVariables false
set_option linter.unusedSimpArgs false
open GP
theorem AD.tail_reach {a : AD} : ∀ (v : List Int) (p : Int), a.Reach p → a.tail v p → ∃ q, a.Reach q ∧ q ∈ a.last
 | [], p, hp, h => ⟨p, hp, h⟩
 | s :: v, p, hp, ⟨q, h1, h2, _, h4⟩ => AD.tail_reach v q (.step p q hp h1 h2) h4
theorem AD.reach_acc {a : AD} {p : Int} (h : a.Reach p) : ∀ v, a.tail v p → ∃ w, a.acc w := by
 induction h with
 | first q h1 h2 => exact fun v hv => ⟨a.sym q :: v, q, h1, h2, rfl, hv⟩
 | step p q _ h1 h2 ih => exact fun v hv => ih (a.sym q :: v) ⟨q, h1, h2, rfl, hv⟩
theorem AD.live_iff (a : AD) : a.live ↔ ∃ w, a.acc w := by
 constructor
 ·rintro (h | ⟨p, h1, h2⟩)
  ·exact ⟨[], h⟩
  ·exact AD.reach_acc h1 [] h2
 ·rintro ⟨w, h⟩
  cases w with
  | nil => exact .inl h
  | cons s v =>
   obtain ⟨q, h1, h2, _, h4⟩ := h
   exact .inr (AD.tail_reach v q (.first q h1 h2) h4)
section
variable {n : Int} {k : Nat}
theorem followF_ok (hn : n ≤ 512) (hk : 4096 ≤ k) {rows : List (List Int)} (hr : RowsOk n rows) : ∀ (d i : Nat) (acc : List (List Int)), rows.length = i + d → acc.length = rows.length →
  ∃ Fo, followF k (rows.drop i) i acc = some Fo ∧ Fo.length = rows.length ∧ (∀ j, j < i → Fo.getD j [] = acc.getD j []) ∧ ∀ j, i ≤ j → j < rows.length → (Fo.getD j []).length ≤ 512 ∧ ∀ p : Int, p ∈ Fo.getD j [] ↔ ∃ q : Nat, p = (q : Int) ∧ Mem (rows.getD j (freshF n)) q := by
 intro d
 induction d with
 | zero =>
  intro i acc he ha
  rw [List.drop_of_length_le (by omega)]
  exact ⟨acc, rfl, ha, fun _ _ => rfl, fun j h1 h2 => by omega⟩
 | succ d ih =>
  intro i acc he ha
  have hi : i < rows.length := by omega
  have hd : rows.drop i = rows[i] :: rows.drop (i + 1) := List.drop_eq_getElem_cons hi
  have hri : rows.getD i (freshF n) = rows[i] := by rw [List.getD_eq_getElem?_getD, List.getElem?_eq_getElem hi]; rfl
  have hs := hr i
  rw [hri] at hs
  obtain ⟨X, x1, x2, x3⟩ := list_ok k n rows.length hn hk hs
  obtain ⟨Fo, f1, f2, f3, f4⟩ := ih (i + 1) (acc.set i X) (by omega) (by rw [List.length_set]; exact ha)
  have hX : Fo.getD i [] = X := by
   rw [f3 i (by omega), List.getD_eq_getElem?_getD, List.getElem?_set]
   simp [ha, hi]
  refine ⟨Fo, ?_, f2, fun j hj => ?_, fun j h1 h2 => ?_⟩
  ·rw [hd]
   unfold followF
   rw [if_pos (by omega), x1, Option.bind_some]
   exact f1
  ·rw [f3 j (by omega), List.getD_eq_getElem?_getD, List.getElem?_set, if_neg (by omega), ← List.getD_eq_getElem?_getD]
  ·by_cases hj : j = i
   ·subst hj
    rw [hX, hri]
    exact ⟨x2, x3⟩
   ·exact f4 j (by omega) h2
structure AutoOf (e : Pr.S24) (a : AD) : Prop where
 acc : ∀ w, a.acc w ↔ LangE e w
 n : a.syms.length = cntE e
 n0 : a.syms.length ≤ 512
 n2 : a.first.length ≤ 512
 n3 : a.last.length ≤ 512
 n4 : a.follow.length ≤ 512
 nr : ∀ r ∈ a.follow, r.length ≤ 512
 r2 : ∀ x ∈ a.first, 0 ≤ x ∧ x < 512
 r4 : ∀ r ∈ a.follow, ∀ x ∈ r, 0 ≤ x ∧ x < 512
theorem auto_of {e : Pr.S24} {r : PR} (R : PartRes n e [] [] r) (hn : n ≤ 512) (hc : ((cntE e : Nat) : Int) ≤ n) {F L : List Int} {Fo : List (List Int)} (hF1 : F.length ≤ 512) (hF : ∀ p : Int, p ∈ F ↔ ∃ q : Nat, p = (q : Int) ∧ Mem r.fst q) (hL1 : L.length ≤ 512) (hL : ∀ p : Int, p ∈ L ↔ ∃ q : Nat, p = (q : Int) ∧ Mem r.lst q)
  (hFo1 : Fo.length = r.rows.length) (hFo : ∀ j, j < r.rows.length → (Fo.getD j []).length ≤ 512 ∧ ∀ p : Int, p ∈ Fo.getD j [] ↔ ∃ q : Nat, p = (q : Int) ∧ Mem (r.rows.getD j (freshF n)) q) : AutoOf e ⟨r.syms, r.null, F, L, Fo⟩ := by
 have hcnt : r.syms.length = cntE e := by have := R.cnt; simpa using this
 have hlen := R.len
 have hrow : ∀ rr ∈ Fo, ∃ j, j < r.rows.length ∧ rr = Fo.getD j [] := fun rr hm => by
  obtain ⟨j, hj, rfl⟩ := List.getElem_of_mem hm
  exact ⟨j, by omega, by rw [List.getD_eq_getElem?_getD, List.getElem?_eq_getElem hj]; rfl⟩
 have hin : ∀ i q, Mem (r.rows.getD i (freshF n)) q → q < r.syms.length := fun i q h => by have := (R.rk i).lt q h; omega
 have hsym : ∀ q : Nat, (⟨r.syms, r.null, F, L, Fo⟩ : AD).sym (q : Int) = symL r.syms q := fun q => by unfold AD.sym symL; rw [Int.toNat_natCast]
 have key : ∀ (v : List Int) (p : Nat), p < r.syms.length → ((⟨r.syms, r.null, F, L, Fo⟩ : AD).tail v (p : Int) ↔ Run (symL r.syms) (folR n r.rows) (Mem r.lst) p (symL r.syms p :: v)) := by
  intro v
  induction v with
  | nil =>
   intro p hp
   show (p : Int) ∈ L ↔ _
   rw [hL]
   constructor
   ·rintro ⟨q, h1, h2⟩
    obtain rfl : p = q := by omega
    exact .one p h2
   ·intro h
    generalize hx : [symL r.syms p] = x at h
    cases h with
    | one _ h => exact ⟨p, rfl, h⟩
    | more _ q w _ h =>
     have : w = [] := by injection hx with _ h2; exact h2.symm
     exact (h.ne this).elim
  | cons s v ih =>
   intro p hp
   constructor
   ·rintro ⟨q, ⟨h1, h2, h3⟩, ⟨h4, h5⟩, h6, h7⟩
    obtain ⟨q', rfl⟩ : ∃ q' : Nat, q = q' := ⟨q.toNat, by omega⟩
    have hq' : q' < r.syms.length := by have h5' : (q' : Int) < (r.syms.length : Int) := h5; omega
    have h8 := (ih q' hq').1 h7
    rw [hsym q'] at h6
    rw [h6] at h8
    refine .more p q' _ ?_ h8
    have h3' : (q' : Int) ∈ Fo.getD p [] := by have := h3; rw [Int.toNat_natCast] at this; exact this
    obtain ⟨q2, e1, e2⟩ := ((hFo p (by omega)).2 _).1 h3'
    obtain rfl : q' = q2 := by omega
    exact e2
   ·intro h
    generalize hx : symL r.syms p :: s :: v = x at h
    cases h with
    | one _ h => injection hx with _ h2; cases h2
    | more _ q w hf h =>
     have hw : w = s :: v := by injection hx with _ h2; exact h2.symm
     subst hw
     have hq := hin p q hf
     have hs : symL r.syms q = s := by
      generalize hy : s :: v = y at h
      cases h with
      | one _ _ => injection hy with h1 _; exact h1.symm
      | more _ _ _ _ _ => injection hy with h1 _; exact h1.symm
     refine ⟨(q : Int), ⟨by omega, ?_, ?_⟩, ⟨by omega, ?_⟩, by rw [hsym]; exact hs, (ih q hq).2 (by rw [hs]; exact h)⟩
     ·show (p : Int) < (Fo.length : Int); omega
     ·show (q : Int) ∈ Fo.getD (p : Int).toNat []
      rw [Int.toNat_natCast]
      exact ((hFo p (by omega)).2 _).2 ⟨q, rfl, hf⟩
     ·show (q : Int) < (r.syms.length : Int); omega
 refine ⟨fun w => ?_, hcnt, by show r.syms.length ≤ 512; omega, hF1, hL1, by show Fo.length ≤ 512; omega, fun rr hm => ?_, fun x hx => ?_, fun rr hm x hx => ?_⟩
 ·rw [← R.fr.lang w]
  cases w with
  | nil =>
   show r.null = true ↔ _
   constructor
   ·exact fun h => .inl ⟨h, rfl⟩
   ·rintro (h | ⟨p, _, h⟩)
    ·exact h.1
    ·exact (h.ne rfl).elim
  | cons s v =>
   constructor
   ·rintro ⟨q, h1, ⟨h2, h3⟩, h4, h5⟩
    obtain ⟨q', rfl, h6⟩ := (hF q).1 h1
    have hq' : q' < r.syms.length := by have h3' : (q' : Int) < (r.syms.length : Int) := h3; omega
    have h7 := (key v q' hq').1 h5
    rw [hsym q'] at h4
    rw [h4] at h7
    exact .inr ⟨q', h6, h7⟩
   ·rintro (⟨_, h⟩ | ⟨p, h1, h2⟩)
    ·cases h
    ·have hp : p < r.syms.length := by have := R.pt.f.lt p h1; omega
     have hs : symL r.syms p = s := by
      generalize hy : s :: v = y at h2
      cases h2 with
      | one _ _ => injection hy with h1 _; exact h1.symm
      | more _ _ _ _ _ => injection hy with h1 _; exact h1.symm
     exact ⟨(p : Int), (hF _).2 ⟨p, rfl, h1⟩, ⟨by omega, by show (p : Int) < (r.syms.length : Int); omega⟩, by rw [hsym]; exact hs, (key v p hp).2 (by rw [hs]; exact h2)⟩
 ·obtain ⟨j, hj, rfl⟩ := hrow rr hm
  exact (hFo j hj).1
 ·obtain ⟨q, rfl, h⟩ := (hF x).1 hx
  have h1 : q < r.rows.length := R.pt.f.lt q h
  omega
 ·obtain ⟨j, hj, rfl⟩ := hrow rr hm
  obtain ⟨q, rfl, h⟩ := ((hFo j hj).2 x).1 hx
  have := hin j q h
  omega
theorem build_ok {e : Pr.S24} {kc : Nat} (hck : glush_Check.f kc e.f0 e.f1 e.f2 e.f3 e.f4 = some 0) (most : Int) (hc : ((cntE e : Nat) : Int) ≤ min most 512) :
  ∃ k a, glush_Build.f k e.f0 e.f1 e.f2 e.f3 e.f4 most = some (a.syms, a.null, a.first, a.last, a.follow, 0) ∧ AutoOf e a := by
 obtain ⟨hw, hsz⟩ := check_res hck
 have hck' : glush_Check.f (max kc 65536) e.f0 e.f1 e.f2 e.f3 e.f4 = some 0 := at_rounds (g := fun k => glush_Check.f k e.f0 e.f1 e.f2 e.f3 e.f4) (fun k => glush_Check.mono e.f0 e.f1 e.f2 e.f3 e.f4 k) (Nat.le_max_left _ _) hck
 have hK : 65536 ≤ max kc 65536 := Nat.le_max_right _ _
 generalize max kc 65536 = K at hck' hK
 have hpos := (pos_ok _ e (Nat.le_refl _) (by omega) hw).up (show 8 * szE e ≤ K by omega) (min most 512) (by omega) (by omega)
 have hpm : min ((cntE e : Nat) : Int) (min most 512 + 1) = ((cntE e : Nat) : Int) := by omega
 rw [hpm] at hpos
 obtain ⟨r, e1, R⟩ := part_ok (n := ((cntE e : Nat) : Int)) (by omega) (by omega) _ e (Nat.le_refl _) (by omega) hw K (by omega) [] [] rfl (fun i => fresh_ok _ _) (by simp)
 have hn : ((cntE e : Nat) : Int) ≤ 512 := by omega
 obtain ⟨F, f1, f2, f3⟩ := list_ok K _ r.rows.length hn (by omega) R.pt.f
 obtain ⟨L, l1, l2, l3⟩ := list_ok K _ r.rows.length hn (by omega) R.pt.l
 have hrl : r.rows.length = cntE e := by have h1 := R.len; have h2 := R.cnt; simp at h2; omega
 obtain ⟨Fo, g1, g2, _, g4⟩ := followF_ok (k := K) hn (by omega) R.rk r.rows.length 0 (List.replicate (cntE e) []) (by omega) (by rw [List.length_replicate]; exact hrl.symm)
 rw [List.drop_zero] at g1
 refine ⟨K, ⟨r.syms, r.null, F, L, Fo⟩, ?_, auto_of R hn (Int.le_refl _) f2 f3 l2 l3 g2 (fun j hj => g4 j (Nat.zero_le _) hj)⟩
 have hx : (⟨e.f0, e.f1, e.f2, e.f3, e.f4⟩ : Pr.S24) = e := by cases e; rfl
 unfold glush_Build.f
 rw [hck', Option.bind_some, if_pos rfl, hpos, Option.bind_some, if_neg (by omega), if_pos (by omega), hx, e1, Option.bind_some, f1, Option.bind_some, l1, Option.bind_some, Int.toNat_natCast, g1, Option.bind_some]
end
end Go.Proofs.YthocjdlcopmhiaaDoor.G
