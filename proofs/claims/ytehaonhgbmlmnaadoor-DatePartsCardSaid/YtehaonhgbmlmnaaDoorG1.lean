import Derived.Test.YtehaonhgbmlmnaaDoorProg
import Derived.Below
import Derived.Deep.Draws
import Derived.Deep.AppendLies
import Derived.Maps.AppendAt
import Derived.OwnWalk
import Derived.Laws.BytesArg
import Derived.Laws.MakeOwn
import Derived.Laws.OwnMore
import Derived.Deep.OwnRows
import Derived.Tactics
import Derived.Lib.ConvBytes
import Derived.Laws.Slices
import Derived.WalkKit
import Derived.KernelRfl
import Derived.RowKit3
import Derived.Deep.LoopGhost
import Derived.Deep.QuietTactic
import Derived.BigQuiet
import Derived.WideLaws
import Derived.Deep.DeepCutAuto
import Derived.Deep.CutBlock
import Derived.Deep.RegionHeld3
import Derived.Laws.Rows
import Derived.Lib.AppendStr
import Derived.ArgAppend
import Derived.Laws.IdiomCopy
import Derived.OrdersHeld
import Derived.Laws.BitsLemmas
import Derived.RowKit
import Derived.Test.YtehaonhgbmlmnaaDoorS2
import Derived.Test.YtehaonhgbmlmnaaDoorWWords
import Derived.Test.YtehaonhgbmlmnaaDoorWLast
import Derived.Test.YtehaonhgbmlmnaaDoorWTab
import Derived.Test.YtehaonhgbmlmnaaDoorWQPut
import Derived.Test.YtehaonhgbmlmnaaDoorWApart
import Derived.Test.YtehaonhgbmlmnaaDoorWArr
import Derived.Test.YtehaonhgbmlmnaaDoorWZeros
import Derived.Test.YtehaonhgbmlmnaaDoorWFoot
import Derived.Test.YtehaonhgbmlmnaaDoorWKept
import Derived.Test.YtehaonhgbmlmnaaDoorWShare
import Derived.Test.YtehaonhgbmlmnaaDoorWN
import Derived.Test.YtehaonhgbmlmnaaDoorWRepsOne
import Derived.Test.YtehaonhgbmlmnaaDoorWGuard
import Derived.Test.YtehaonhgbmlmnaaDoorWNEv
import Derived.Test.YtehaonhgbmlmnaaDoorWMore
import Derived.Test.YtehaonhgbmlmnaaDoorWEqStruct
import Derived.Test.YtehaonhgbmlmnaaDoorWInv
import Derived.Test.YtehaonhgbmlmnaaDoorWInvWords
import Derived.Test.YtehaonhgbmlmnaaDoorS
import Derived.Test.YtehaonhgbmlmnaaDoorPrx0
import Derived.Shelf.Strconv.Atoi
import Derived.Shelf.Strings.Repeat
import Derived.Shelf.LaySoft
import Derived.Lib.SmallJoins

namespace Go.Proofs.YtehaonhgbmlmnaaDoor.G
open Go.RowKit Go.Proofs.YtehaonhgbmlmnaaDoorW.PrintWords Go.Proofs.YtehaonhgbmlmnaaDoorW.PrintLast Go.Proofs.YtehaonhgbmlmnaaDoorW.PrintMore
attribute [local go_sem] max2_int min2_int max_two min_two max_three min_three max_four min_four
set_option linter.unusedVariables false
set_option linter.unusedSimpArgs false

open Go.Shelf Go.Sort
def lays172_ren : Go.Shelf.Ren := ⟨fun | 172 => 41 | 244 => 54 | 245 => 55 | 247 => 63 | 279 => 64 | 280 => 65 | 281 => 66 | 282 => 67 | 287 => 75 | 316 => 76 | 171 => 78 | 205 => 77 | 321 => 85 | 322 => 86 | 243 => 87 | 246 => 90 | 283 => 91 | 284 => 92 | 285 => 93 | 286 => 94 | 129 => 96 | 317 => 95 | 318 => 97 | 319 => 98 | 320 => 99 | 337 => 100 | 338 => 101 | n => n, fun | 9 => 9 | 3 => 3 | 75 => 70 | 76 => 71 | 4 => 4 | 5 => 5 | 167 => 78 | 37 => 66 | 0 => 0 | 85 => 79 | 2 => 2 | 168 => 81 | 53 => 92 | 175 => 93 | 46 => 84 | 210 => 97 | 127 => 104 | 145 => 109 | 143 => 107 | 21 => 21 | 171 => 114 | 173 => 117 | 212 => 120 | 51 => 99 | 20 => 20 | 213 => 121 | 232 => 124 | 233 => 125 | 80 => 91 | n => n, fun | 15 => 0 | 16 => 1 | 17 => 3 | 18 => 4 | 19 => 5 | n => n⟩
theorem lays172 : Go.Proofs.Lays.n172 Tryd.prog lays172_ren := {
  mixed := by kernel_rfl
  f129 := Tryd.func96.trans (congrArg some (by kernel_rfl))
  f171 := Tryd.func78.trans (congrArg some (by kernel_rfl))
  f172 := Tryd.func41.trans (congrArg some (by kernel_rfl))
  f205 := Tryd.func77.trans (congrArg some (by kernel_rfl))
  f243 := Tryd.func87.trans (congrArg some (by kernel_rfl))
  f244 := Tryd.func54.trans (congrArg some (by kernel_rfl))
  f245 := Tryd.func55.trans (congrArg some (by kernel_rfl))
  f246 := Tryd.func90.trans (congrArg some (by kernel_rfl))
  f247 := Tryd.func63.trans (congrArg some (by kernel_rfl))
  f279 := Tryd.func64.trans (congrArg some (by kernel_rfl))
  f280 := Tryd.func65.trans (congrArg some (by kernel_rfl))
  f281 := Tryd.func66.trans (congrArg some (by kernel_rfl))
  f282 := Tryd.func67.trans (congrArg some (by kernel_rfl))
  f283 := Tryd.func91.trans (congrArg some (by kernel_rfl))
  f284 := Tryd.func92.trans (congrArg some (by kernel_rfl))
  f285 := Tryd.func93.trans (congrArg some (by kernel_rfl))
  f286 := Tryd.func94.trans (congrArg some (by kernel_rfl))
  f287 := Tryd.func75.trans (congrArg some (by kernel_rfl))
  f316 := Tryd.func76.trans (congrArg some (by kernel_rfl))
  f317 := Tryd.func95.trans (congrArg some (by kernel_rfl))
  f318 := Tryd.func97.trans (congrArg some (by kernel_rfl))
  f319 := Tryd.func98.trans (congrArg some (by kernel_rfl))
  f320 := Tryd.func99.trans (congrArg some (by kernel_rfl))
  f321 := Tryd.func85.trans (congrArg some (by kernel_rfl))
  f322 := Tryd.func86.trans (congrArg some (by kernel_rfl))
  f337 := Tryd.func100.trans (congrArg some (by kernel_rfl))
  f338 := Tryd.func101.trans (congrArg some (by kernel_rfl))
  t0 := Tryd.underlying0
  a0 := Tryd.isAgg0
  z0 := Tryd.sizeOf0
  v0 := Tryd.zeroValue0
  t2 := Tryd.underlying2
  a2 := Tryd.isAgg2
  z2 := Tryd.sizeOf2
  v2 := Tryd.zeroValue2
  t3 := Tryd.underlying3
  a3 := Tryd.isAgg3
  z3 := Tryd.sizeOf3
  v3 := Tryd.zeroValue3
  t4 := Tryd.underlying4
  a4 := Tryd.isAgg4
  z4 := Tryd.sizeOf4
  v4 := Tryd.zeroValue4
  t5 := Tryd.underlying5
  a5 := Tryd.isAgg5
  z5 := Tryd.sizeOf5
  v5 := Tryd.zeroValue5
  t9 := Tryd.underlying9
  a9 := Tryd.isAgg9
  z9 := Tryd.sizeOf9
  v9 := Tryd.zeroValue9
  t20 := Tryd.underlying20
  a20 := Tryd.isAgg20
  z20 := Tryd.sizeOf20
  v20 := Tryd.zeroValue20
  t21 := Tryd.underlying21
  a21 := Tryd.isAgg21
  z21 := Tryd.sizeOf21
  v21 := Tryd.zeroValue21
  t37 := Tryd.underlying66
  a37 := Tryd.isAgg66
  z37 := Tryd.sizeOf66
  v37 := Tryd.zeroValue66
  t46 := Tryd.underlying84
  a46 := Tryd.isAgg84
  z46 := Tryd.sizeOf84
  v46 := Tryd.zeroValue84
  t51 := Tryd.underlying99
  a51 := Tryd.isAgg99
  z51 := Tryd.sizeOf99
  v51 := Tryd.zeroValue99
  t53 := Tryd.underlying92
  a53 := Tryd.isAgg92
  z53 := Tryd.sizeOf92
  v53 := Tryd.zeroValue92
  t75 := Tryd.underlying70
  a75 := Tryd.isAgg70
  z75 := Tryd.sizeOf70
  v75 := Tryd.zeroValue70
  t76 := Tryd.underlying71
  a76 := Tryd.isAgg71
  z76 := Tryd.sizeOf71
  v76 := Tryd.zeroValue71
  t85 := Tryd.underlying79
  a85 := Tryd.isAgg79
  z85 := Tryd.sizeOf79
  v85 := Tryd.zeroValue79
  t127 := Tryd.underlying104
  a127 := Tryd.isAgg104
  z127 := Tryd.sizeOf104
  v127 := Tryd.zeroValue104
  t143 := Tryd.underlying107
  a143 := Tryd.isAgg107
  z143 := Tryd.sizeOf107
  v143 := Tryd.zeroValue107
  t145 := Tryd.underlying109
  a145 := Tryd.isAgg109
  z145 := Tryd.sizeOf109
  v145 := Tryd.zeroValue109
  t167 := Tryd.underlying78
  a167 := Tryd.isAgg78
  z167 := Tryd.sizeOf78
  v167 := Tryd.zeroValue78
  t168 := Tryd.underlying81
  a168 := Tryd.isAgg81
  z168 := Tryd.sizeOf81
  v168 := Tryd.zeroValue81
  t171 := Tryd.underlying114
  a171 := Tryd.isAgg114
  z171 := Tryd.sizeOf114
  v171 := Tryd.zeroValue114
  t173 := Tryd.underlying117
  a173 := Tryd.isAgg117
  z173 := Tryd.sizeOf117
  v173 := Tryd.zeroValue117
  t175 := Tryd.underlying93
  a175 := Tryd.isAgg93
  z175 := Tryd.sizeOf93
  v175 := Tryd.zeroValue93
  t210 := Tryd.underlying97
  a210 := Tryd.isAgg97
  z210 := Tryd.sizeOf97
  v210 := Tryd.zeroValue97
  t212 := Tryd.underlying120
  a212 := Tryd.isAgg120
  z212 := Tryd.sizeOf120
  v212 := Tryd.zeroValue120
  t213 := Tryd.underlying121
  a213 := Tryd.isAgg121
  z213 := Tryd.sizeOf121
  t232 := Tryd.underlying124
  a232 := Tryd.isAgg124
  z232 := Tryd.sizeOf124
  v232 := Tryd.zeroValue124
  t233 := Tryd.underlying125
  a233 := Tryd.isAgg125
  z233 := Tryd.sizeOf125
  v233 := Tryd.zeroValue125
  g15 := by kernel_rfl
  g16 := by kernel_rfl
  g17 := by kernel_rfl
  g18 := by kernel_rfl
  g19 := by kernel_rfl }
open Go.RowKit in
theorem sh_strconv_Atoi (s : ByteArray) (n : Int) (hl : s.size ≤ 18) (h : Lib.atoi s.data.toList = some n) (w : World) :
    Calls Tryd.prog 41 #[.string s] w fun e w' => e = .returned (.tuple #[.int .i64 n, .nilIface]) ∧ ∃ t, w' = Lib.bytesWorld w 5 t := Any.strconv_Atoi lays172 s n hl h w
def lays105_ren : Go.Shelf.Ren := ⟨fun | 105 => 56 | 212 => 68 | 99 => 69 | 165 => 70 | 166 => 71 | 170 => 72 | 169 => 73 | 263 => 79 | 264 => 80 | 206 => 81 | 240 => 82 | 241 => 83 | 276 => 88 | 277 => 89 | n => n, fun | 9 => 9 | 3 => 3 | 4 => 4 | 20 => 20 | 0 => 0 | 46 => 84 | 109 => 85 | 5 => 5 | 72 => 90 | 76 => 71 | 51 => 99 | 146 => 100 | 53 => 92 | 148 => 102 | 70 => 88 | 37 => 66 | 75 => 70 | 127 => 104 | 164 => 110 | 80 => 91 | n => n, fun | n => n⟩
theorem lays105 : Go.Proofs.Lays.n105 Tryd.prog lays105_ren := {
  mixed := by kernel_rfl
  f99 := Tryd.func69.trans (congrArg some (by kernel_rfl))
  f105 := Tryd.func56.trans (congrArg some (by kernel_rfl))
  f165 := Tryd.func70.trans (congrArg some (by kernel_rfl))
  f166 := Tryd.func71.trans (congrArg some (by kernel_rfl))
  f169 := Tryd.func73.trans (congrArg some (by kernel_rfl))
  f170 := Tryd.func72.trans (congrArg some (by kernel_rfl))
  f206 := Tryd.func81.trans (congrArg some (by kernel_rfl))
  f212 := Tryd.func68.trans (congrArg some (by kernel_rfl))
  f240 := Tryd.func82.trans (congrArg some (by kernel_rfl))
  f241 := Tryd.func83.trans (congrArg some (by kernel_rfl))
  f263 := Tryd.func79.trans (congrArg some (by kernel_rfl))
  f264 := Tryd.func80.trans (congrArg some (by kernel_rfl))
  f276 := Tryd.func88.trans (congrArg some (by kernel_rfl))
  f277 := Tryd.func89.trans (congrArg some (by kernel_rfl))
  t0 := Tryd.underlying0
  a0 := Tryd.isAgg0
  z0 := Tryd.sizeOf0
  v0 := Tryd.zeroValue0
  t3 := Tryd.underlying3
  a3 := Tryd.isAgg3
  z3 := Tryd.sizeOf3
  v3 := Tryd.zeroValue3
  t4 := Tryd.underlying4
  a4 := Tryd.isAgg4
  z4 := Tryd.sizeOf4
  v4 := Tryd.zeroValue4
  t5 := Tryd.underlying5
  a5 := Tryd.isAgg5
  z5 := Tryd.sizeOf5
  v5 := Tryd.zeroValue5
  t9 := Tryd.underlying9
  a9 := Tryd.isAgg9
  z9 := Tryd.sizeOf9
  v9 := Tryd.zeroValue9
  t20 := Tryd.underlying20
  a20 := Tryd.isAgg20
  z20 := Tryd.sizeOf20
  v20 := Tryd.zeroValue20
  t37 := Tryd.underlying66
  a37 := Tryd.isAgg66
  z37 := Tryd.sizeOf66
  v37 := Tryd.zeroValue66
  t46 := Tryd.underlying84
  a46 := Tryd.isAgg84
  z46 := Tryd.sizeOf84
  v46 := Tryd.zeroValue84
  t51 := Tryd.underlying99
  a51 := Tryd.isAgg99
  z51 := Tryd.sizeOf99
  v51 := Tryd.zeroValue99
  t53 := Tryd.underlying92
  a53 := Tryd.isAgg92
  z53 := Tryd.sizeOf92
  v53 := Tryd.zeroValue92
  t70 := Tryd.underlying88
  a70 := Tryd.isAgg88
  z70 := Tryd.sizeOf88
  v70 := Tryd.zeroValue88
  t72 := Tryd.underlying90
  a72 := Tryd.isAgg90
  z72 := Tryd.sizeOf90
  v72 := Tryd.zeroValue90
  t75 := Tryd.underlying70
  a75 := Tryd.isAgg70
  z75 := Tryd.sizeOf70
  v75 := Tryd.zeroValue70
  t76 := Tryd.underlying71
  a76 := Tryd.isAgg71
  z76 := Tryd.sizeOf71
  v76 := Tryd.zeroValue71
  t109 := Tryd.underlying85
  a109 := Tryd.isAgg85
  z109 := Tryd.sizeOf85
  v109 := Tryd.zeroValue85
  t127 := Tryd.underlying104
  a127 := Tryd.isAgg104
  z127 := Tryd.sizeOf104
  v127 := Tryd.zeroValue104
  t146 := Tryd.underlying100
  a146 := Tryd.isAgg100
  z146 := Tryd.sizeOf100
  v146 := Tryd.zeroValue100
  t148 := Tryd.underlying102
  a148 := Tryd.isAgg102
  z148 := Tryd.sizeOf102
  v148 := Tryd.zeroValue102
  t164 := Tryd.underlying110
  a164 := Tryd.isAgg110
  z164 := Tryd.sizeOf110
  v164 := Tryd.zeroValue110 }
theorem sh_Builder_Extra_105 : Builder.Extra Tryd.prog lays105_ren := {
  sizeBuilder := by kernel_rfl
  liesBuilder := by kernel_rfl
  t5 := Tryd.underlying5
  a5 := Tryd.isAgg5
  z5 := Tryd.sizeOf5
  v5 := Tryd.zeroValue5
  infoByte := by kernel_rfl
  cellsByte := by kernel_rfl
  sizeByte := by kernel_rfl
  neB5 := by decide }
open Go.RowKit Go.Lib in
theorem sh_strings_Repeat (s : ByteArray) (c : Nat) (w : World) (hc : c ≤ 9223372036854775807) (hlen : s.size * c ≤ 140737488355328) :
    Calls Tryd.prog 56 #[.string s, .int .i64 c] w fun e w' => e = .returned (.string ⟨(Lib.repeatL s.data.toList c).toArray⟩) ∧ Below w.heap.size w w' := Any.strings_Repeat lays105 sh_Builder_Extra_105 s c w hc hlen


/-! ### strconv.Atoi at a numeral of at most eighteen bytes; strings.Repeat -/
def strconv_Atoi.f (s : ByteArray) : Option (Int × Option Int) := if s.size ≤ 18 then (Lib.atoi s.data.toList).map (fun n => (n, none)) else none
theorem strconv_Atoi.calls (a0 : ByteArray) (r1 : Int) (r2 : Option Int) (w : World) (h : strconv_Atoi.f a0 = some (r1, r2)) :
    Calls Tryd.prog 41 #[.string a0] w fun e w' => e = .returned (.tuple #[.int .i64 r1, Pr.errW r2]) ∧ Below w.heap.size w w' := by
  unfold strconv_Atoi.f at h
  split at h
  · rename_i hl
    obtain ⟨n, hn, he⟩ := Option.map_eq_some_iff.mp h
    cases he
    refine (sh_strconv_Atoi a0 r1 hl hn w).mono ?_
    rintro e w1 ⟨rfl, t, rfl⟩
    exact ⟨rfl, Joins.below_bytesWorld _ w 5 t (Nat.le_refl _)⟩
  · cases h
def strings_Repeat.f (s : ByteArray) (c : Int) : Option ByteArray := if 0 ≤ c ∧ c ≤ 1000 ∧ s.size ≤ 1000 then some ⟨(Lib.repeatL s.data.toList c.toNat).toArray⟩ else none
theorem strings_Repeat.calls (a0 : ByteArray) (a1 : Int) (r : ByteArray) (w : World) (h : strings_Repeat.f a0 a1 = some r) :
    Calls Tryd.prog 56 #[.string a0, .int .i64 a1] w fun e w' => e = .returned (.string r) ∧ Below w.heap.size w w' := by
  unfold strings_Repeat.f at h
  split at h
  · rename_i hc
    obtain rfl := Option.some.inj h
    obtain ⟨c, rfl⟩ := Int.eq_ofNat_of_zero_le hc.1
    have h1 : c ≤ 1000 := by omega
    have h2 : a0.size * c ≤ 1000 * 1000 := Nat.mul_le_mul hc.2.2 h1
    rw [show ((c : Int)).toNat = c from Int.toNat_natCast c]
    exact sh_strings_Repeat a0 c w (by omega) (by omega)
  · cases h

end Go.Proofs.YtehaonhgbmlmnaaDoor.G
