/- Contracts and facts of functions of the program (calendar, dates and their documents), joined in one text by a program of this session. No condition but what each theorem states. -/
import Derived.Shelf.Strconv.Atoi
import Derived.Shelf.Strconv.Itoa0
import Derived.Shelf.Strconv.Itoa1
import Derived.Shelf.LaysM
import Derived.Shelf.Strconv.Itoa2
import Derived.Shelf.Strconv.Itoa3
import Derived.Shelf.Strconv.AtoiErrFast
import Derived.Shelf.Strconv.ParseIntEmpty
import Derived.Shelf.Strconv.AtoiFail
import Derived.Shelf.Strconv.Clone
import Derived.Shelf.Strconv.SyntaxError
import Derived.Shelf.LaysC
import Derived.Shelf.Strconv.ToError
import Derived.Shelf.Strconv.Lower
import Derived.Shelf.Strconv.ParseUint10
import Derived.Shelf.Strconv.ParseUint10Empty
import Derived.Shelf.Strconv.ParseUint10Any
import Derived.Shelf.Strconv.ParseInt10
import Derived.Shelf.Strconv.AtoiLong
import Derived.Shelf.Strconv.AtoiInnerAll
import Derived.Shelf.Strconv.RangeError
import Derived.Shelf.Strconv.ToErrorRange
import Derived.Shelf.Strconv.AtoiAll
import Derived.Test.YtoncignjcgjhhaaDoorProg
import Derived.Lib.Atoi
import Derived.Laws.RangeAny
import Derived.Test.YtoncignjcgjhhaaDoorZGA
import Derived.Lib.OthersKept
import Derived.Lib.AtoiErrMem
import Derived.BigCall
set_option linter.unusedVariables false
set_option linter.unusedSimpArgs false
namespace Go.Proofs
open Go.Shelf
def Tryd.lays244_ren : Go.Shelf.Ren := ⟨fun | 244 => 45 | 247 => 48 | 287 => 54 | 321 => 61 | 322 => 62 | n => n, fun | 9 => 9 | 3 => 3 | 75 => 53 | 4 => 4 | 5 => 5 | 167 => 67 | 37 => 66 | 0 => 0 | 85 => 68 | 2 => 2 | 53 => 74 | 175 => 75 | 46 => 77 | 21 => 21 | 80 => 101 | n => n, fun | n => n⟩
theorem Tryd.lays244 : Go.Proofs.Lays.n244 Tryd.prog Tryd.lays244_ren := {
 mixed := by kernel_rfl
 f244 := Tryd.func45.trans (congrArg some (by kernel_rfl))
 f247 := Tryd.func48.trans (congrArg some (by kernel_rfl))
 f287 := Tryd.func54.trans (congrArg some (by kernel_rfl))
 f321 := Tryd.func61.trans (congrArg some (by kernel_rfl))
 f322 := Tryd.func62.trans (congrArg some (by kernel_rfl))
 t0 := Tryd.underlying0
 a0 := Tryd.isAgg0
 z0 := Tryd.sizeOf0
 v0 := Tryd.zeroValue0
 t2 := Tryd.underlying2
 a2 := Tryd.isAgg2
 z2 := Tryd.sizeOf2
 v2 := Tryd.zeroValue2
 t3 := Tryd.underlying3
 a3 := Tryd.isAgg3
 z3 := Tryd.sizeOf3
 v3 := Tryd.zeroValue3
 t4 := Tryd.underlying4
 a4 := Tryd.isAgg4
 z4 := Tryd.sizeOf4
 v4 := Tryd.zeroValue4
 t5 := Tryd.underlying5
 a5 := Tryd.isAgg5
 z5 := Tryd.sizeOf5
 v5 := Tryd.zeroValue5
 t9 := Tryd.underlying9
 a9 := Tryd.isAgg9
 z9 := Tryd.sizeOf9
 v9 := Tryd.zeroValue9
 t21 := Tryd.underlying21
 a21 := Tryd.isAgg21
 z21 := Tryd.sizeOf21
 v21 := Tryd.zeroValue21
 t37 := Tryd.underlying66
 a37 := Tryd.isAgg66
 z37 := Tryd.sizeOf66
 v37 := Tryd.zeroValue66
 t46 := Tryd.underlying77
 a46 := Tryd.isAgg77
 z46 := Tryd.sizeOf77
 v46 := Tryd.zeroValue77
 t53 := Tryd.underlying74
 a53 := Tryd.isAgg74
 z53 := Tryd.sizeOf74
 v53 := Tryd.zeroValue74
 t75 := Tryd.underlying53
 a75 := Tryd.isAgg53
 z75 := Tryd.sizeOf53
 v75 := Tryd.zeroValue53
 t85 := Tryd.underlying68
 a85 := Tryd.isAgg68
 z85 := Tryd.sizeOf68
 v85 := Tryd.zeroValue68
 t167 := Tryd.underlying67
 a167 := Tryd.isAgg67
 z167 := Tryd.sizeOf67
 v167 := Tryd.zeroValue67
 t175 := Tryd.underlying75
 a175 := Tryd.isAgg75
 z175 := Tryd.sizeOf75
 v175 := Tryd.zeroValue75 }
open Go.RowKit in
theorem Tryd.internal_strconv_Atoi (s : ByteArray) (n : Int) (hl : s.size ≤ 18) (h : Lib.atoi s.data.toList = some n) (w : World) :
    Calls Tryd.prog 45 #[.string s] w fun e w' => e = .returned (.tuple #[.int .i64 n, .nilIface]) ∧ ∃ t, w' = Lib.bytesWorld w 5 t := Any.internal_strconv_Atoi Tryd.lays244 s n hl h w
def Tryd.lays172_ren : Go.Shelf.Ren := ⟨fun | 172 => 34 | 244 => 45 | 245 => 46 | 247 => 48 | 279 => 49 | 280 => 50 | 281 => 51 | 282 => 52 | 287 => 54 | 316 => 55 | 171 => 38 | 205 => 56 | 321 => 61 | 322 => 62 | 243 => 47 | 246 => 53 | 283 => 57 | 284 => 58 | 285 => 59 | 286 => 60 | 129 => 64 | 317 => 63 | 318 => 65 | 319 => 66 | 320 => 67 | 337 => 68 | 338 => 69 | n => n, fun | 9 => 9 | 3 => 3 | 75 => 53 | 76 => 54 | 4 => 4 | 5 => 5 | 167 => 67 | 37 => 66 | 0 => 0 | 85 => 68 | 2 => 2 | 168 => 70 | 53 => 74 | 175 => 75 | 46 => 77 | 210 => 80 | 127 => 89 | 145 => 92 | 143 => 90 | 21 => 21 | 171 => 82 | 173 => 85 | 212 => 94 | 51 => 95 | 20 => 20 | 213 => 96 | 232 => 99 | 233 => 100 | 80 => 101 | n => n, fun | 15 => 0 | 16 => 1 | 17 => 2 | 18 => 3 | 19 => 4 | n => n⟩
theorem Tryd.lays172 : Go.Proofs.Lays.n172 Tryd.prog Tryd.lays172_ren := {
 mixed := by kernel_rfl
 f129 := Tryd.func64.trans (congrArg some (by kernel_rfl))
 f171 := Tryd.func38.trans (congrArg some (by kernel_rfl))
 f172 := Tryd.func34.trans (congrArg some (by kernel_rfl))
 f205 := Tryd.func56.trans (congrArg some (by kernel_rfl))
 f243 := Tryd.func47.trans (congrArg some (by kernel_rfl))
 f244 := Tryd.func45.trans (congrArg some (by kernel_rfl))
 f245 := Tryd.func46.trans (congrArg some (by kernel_rfl))
 f246 := Tryd.func53.trans (congrArg some (by kernel_rfl))
 f247 := Tryd.func48.trans (congrArg some (by kernel_rfl))
 f279 := Tryd.func49.trans (congrArg some (by kernel_rfl))
 f280 := Tryd.func50.trans (congrArg some (by kernel_rfl))
 f281 := Tryd.func51.trans (congrArg some (by kernel_rfl))
 f282 := Tryd.func52.trans (congrArg some (by kernel_rfl))
 f283 := Tryd.func57.trans (congrArg some (by kernel_rfl))
 f284 := Tryd.func58.trans (congrArg some (by kernel_rfl))
 f285 := Tryd.func59.trans (congrArg some (by kernel_rfl))
 f286 := Tryd.func60.trans (congrArg some (by kernel_rfl))
 f287 := Tryd.func54.trans (congrArg some (by kernel_rfl))
 f316 := Tryd.func55.trans (congrArg some (by kernel_rfl))
 f317 := Tryd.func63.trans (congrArg some (by kernel_rfl))
 f318 := Tryd.func65.trans (congrArg some (by kernel_rfl))
 f319 := Tryd.func66.trans (congrArg some (by kernel_rfl))
 f320 := Tryd.func67.trans (congrArg some (by kernel_rfl))
 f321 := Tryd.func61.trans (congrArg some (by kernel_rfl))
 f322 := Tryd.func62.trans (congrArg some (by kernel_rfl))
 f337 := Tryd.func68.trans (congrArg some (by kernel_rfl))
 f338 := Tryd.func69.trans (congrArg some (by kernel_rfl))
 t0 := Tryd.underlying0
 a0 := Tryd.isAgg0
 z0 := Tryd.sizeOf0
 v0 := Tryd.zeroValue0
 t2 := Tryd.underlying2
 a2 := Tryd.isAgg2
 z2 := Tryd.sizeOf2
 v2 := Tryd.zeroValue2
 t3 := Tryd.underlying3
 a3 := Tryd.isAgg3
 z3 := Tryd.sizeOf3
 v3 := Tryd.zeroValue3
 t4 := Tryd.underlying4
 a4 := Tryd.isAgg4
 z4 := Tryd.sizeOf4
 v4 := Tryd.zeroValue4
 t5 := Tryd.underlying5
 a5 := Tryd.isAgg5
 z5 := Tryd.sizeOf5
 v5 := Tryd.zeroValue5
 t9 := Tryd.underlying9
 a9 := Tryd.isAgg9
 z9 := Tryd.sizeOf9
 v9 := Tryd.zeroValue9
 t20 := Tryd.underlying20
 a20 := Tryd.isAgg20
 z20 := Tryd.sizeOf20
 v20 := Tryd.zeroValue20
 t21 := Tryd.underlying21
 a21 := Tryd.isAgg21
 z21 := Tryd.sizeOf21
 v21 := Tryd.zeroValue21
 t37 := Tryd.underlying66
 a37 := Tryd.isAgg66
 z37 := Tryd.sizeOf66
 v37 := Tryd.zeroValue66
 t46 := Tryd.underlying77
 a46 := Tryd.isAgg77
 z46 := Tryd.sizeOf77
 v46 := Tryd.zeroValue77
 t51 := Tryd.underlying95
 a51 := Tryd.isAgg95
 z51 := Tryd.sizeOf95
 v51 := Tryd.zeroValue95
 t53 := Tryd.underlying74
 a53 := Tryd.isAgg74
 z53 := Tryd.sizeOf74
 v53 := Tryd.zeroValue74
 t75 := Tryd.underlying53
 a75 := Tryd.isAgg53
 z75 := Tryd.sizeOf53
 v75 := Tryd.zeroValue53
 t76 := Tryd.underlying54
 a76 := Tryd.isAgg54
 z76 := Tryd.sizeOf54
 v76 := Tryd.zeroValue54
 t85 := Tryd.underlying68
 a85 := Tryd.isAgg68
 z85 := Tryd.sizeOf68
 v85 := Tryd.zeroValue68
 t127 := Tryd.underlying89
 a127 := Tryd.isAgg89
 z127 := Tryd.sizeOf89
 v127 := Tryd.zeroValue89
 t143 := Tryd.underlying90
 a143 := Tryd.isAgg90
 z143 := Tryd.sizeOf90
 v143 := Tryd.zeroValue90
 t145 := Tryd.underlying92
 a145 := Tryd.isAgg92
 z145 := Tryd.sizeOf92
 v145 := Tryd.zeroValue92
 t167 := Tryd.underlying67
 a167 := Tryd.isAgg67
 z167 := Tryd.sizeOf67
 v167 := Tryd.zeroValue67
 t168 := Tryd.underlying70
 a168 := Tryd.isAgg70
 z168 := Tryd.sizeOf70
 v168 := Tryd.zeroValue70
 t171 := Tryd.underlying82
 a171 := Tryd.isAgg82
 z171 := Tryd.sizeOf82
 v171 := Tryd.zeroValue82
 t173 := Tryd.underlying85
 a173 := Tryd.isAgg85
 z173 := Tryd.sizeOf85
 v173 := Tryd.zeroValue85
 t175 := Tryd.underlying75
 a175 := Tryd.isAgg75
 z175 := Tryd.sizeOf75
 v175 := Tryd.zeroValue75
 t210 := Tryd.underlying80
 a210 := Tryd.isAgg80
 z210 := Tryd.sizeOf80
 v210 := Tryd.zeroValue80
 t212 := Tryd.underlying94
 a212 := Tryd.isAgg94
 z212 := Tryd.sizeOf94
 v212 := Tryd.zeroValue94
 t213 := Tryd.underlying96
 a213 := Tryd.isAgg96
 z213 := Tryd.sizeOf96
 t232 := Tryd.underlying99
 a232 := Tryd.isAgg99
 z232 := Tryd.sizeOf99
 v232 := Tryd.zeroValue99
 t233 := Tryd.underlying100
 a233 := Tryd.isAgg100
 z233 := Tryd.sizeOf100
 v233 := Tryd.zeroValue100
 g15 := by kernel_rfl
 g16 := by kernel_rfl
 g17 := by kernel_rfl
 g18 := by kernel_rfl
 g19 := by kernel_rfl }
open Go.RowKit in
theorem Tryd.strconv_Atoi (s : ByteArray) (n : Int) (hl : s.size ≤ 18) (h : Lib.atoi s.data.toList = some n) (w : World) :
    Calls Tryd.prog 34 #[.string s] w fun e w' => e = .returned (.tuple #[.int .i64 n, .nilIface]) ∧ ∃ t, w' = Lib.bytesWorld w 5 t := Any.strconv_Atoi Tryd.lays172 s n hl h w
def Tryd.lays129_ren : Go.Shelf.Ren := ⟨fun | 129 => 64 | n => n, fun | 53 => 74 | 3 => 3 | 4 => 4 | 46 => 77 | 5 => 5 | 9 => 9 | n => n, fun | n => n⟩
theorem Tryd.lays129 : Go.Proofs.Lays.n129 Tryd.prog Tryd.lays129_ren := {
 mixed := by kernel_rfl
 f129 := Tryd.func64.trans (congrArg some (by kernel_rfl))
 t3 := Tryd.underlying3
 a3 := Tryd.isAgg3
 z3 := Tryd.sizeOf3
 v3 := Tryd.zeroValue3
 t4 := Tryd.underlying4
 a4 := Tryd.isAgg4
 z4 := Tryd.sizeOf4
 v4 := Tryd.zeroValue4
 t5 := Tryd.underlying5
 a5 := Tryd.isAgg5
 z5 := Tryd.sizeOf5
 v5 := Tryd.zeroValue5
 t9 := Tryd.underlying9
 a9 := Tryd.isAgg9
 z9 := Tryd.sizeOf9
 v9 := Tryd.zeroValue9
 t46 := Tryd.underlying77
 a46 := Tryd.isAgg77
 z46 := Tryd.sizeOf77
 v46 := Tryd.zeroValue77
 t53 := Tryd.underlying74
 a53 := Tryd.isAgg74
 z53 := Tryd.sizeOf74
 v53 := Tryd.zeroValue74 }
theorem Tryd.bits_Len64 (x : Int) (w : World) (h0 : 0 ≤ x) (h1 : x ≤ 18446744073709551615) :
    Calls Tryd.prog 64 #[.int .u64 x] w fun e w' => e = .returned (.int .i64 (Lib.bitLen x.toNat)) ∧ w' = w := Any.bits_Len64 Tryd.lays129 x w h0 h1
def Tryd.lays317_ren : Go.Shelf.Ren := ⟨fun | 317 => 63 | n => n, fun | 3 => 3 | 46 => 77 | n => n, fun | n => n⟩
theorem Tryd.lays317 : Go.Proofs.Lays.n317 Tryd.prog Tryd.lays317_ren := {
 mixed := by kernel_rfl
 f317 := Tryd.func63.trans (congrArg some (by kernel_rfl))
 t3 := Tryd.underlying3
 a3 := Tryd.isAgg3
 z3 := Tryd.sizeOf3
 v3 := Tryd.zeroValue3
 t46 := Tryd.underlying77
 a46 := Tryd.isAgg77
 z46 := Tryd.sizeOf77
 v46 := Tryd.zeroValue77 }
open Go.Lib in
theorem Tryd.internal_strconv_log10Pow2 (x : Nat) (h : x ≤ 64) (w : World) :
    Calls Tryd.prog 63 #[.int .i64 x] w fun e w' => e = .returned (.int .i64 (Lib.l10 x)) ∧ w' = w := Any.internal_strconv_log10Pow2 Tryd.lays317 x h w
def Tryd.lays318_ren : Go.Shelf.Ren := ⟨fun | 318 => 65 | n => n, fun | 3 => 3 | 4 => 4 | n => n, fun | n => n⟩
theorem Tryd.lays318 : Go.Proofs.Lays.n318 Tryd.prog Tryd.lays318_ren := {
 mixed := by kernel_rfl
 f318 := Tryd.func65.trans (congrArg some (by kernel_rfl))
 t3 := Tryd.underlying3
 a3 := Tryd.isAgg3
 z3 := Tryd.sizeOf3
 v3 := Tryd.zeroValue3
 t4 := Tryd.underlying4
 a4 := Tryd.isAgg4
 z4 := Tryd.sizeOf4
 v4 := Tryd.zeroValue4 }
open Go.Lib in
theorem Tryd.internal_strconv_bool2_int (b : Bool) (w : World) :
    Calls Tryd.prog 65 #[.bool b] w fun e w' => e = .returned (.int .i64 (if b then 1 else 0)) ∧ w' = w := Any.internal_strconv_bool2_int Tryd.lays318 b w
def Tryd.lays283_ren : Go.Shelf.Ren := ⟨fun | 283 => 57 | n => n, fun | 3 => 3 | 9 => 9 | 4 => 4 | n => n, fun | n => n⟩
theorem Tryd.lays283 : Go.Proofs.Lays.n283 Tryd.prog Tryd.lays283_ren := {
 mixed := by kernel_rfl
 f283 := Tryd.func57.trans (congrArg some (by kernel_rfl))
 t3 := Tryd.underlying3
 a3 := Tryd.isAgg3
 z3 := Tryd.sizeOf3
 v3 := Tryd.zeroValue3
 t4 := Tryd.underlying4
 a4 := Tryd.isAgg4
 z4 := Tryd.sizeOf4
 v4 := Tryd.zeroValue4
 t9 := Tryd.underlying9
 a9 := Tryd.isAgg9
 z9 := Tryd.sizeOf9
 v9 := Tryd.zeroValue9 }
open Go.Lib in
theorem Tryd.internal_strconv_small (i : Nat) (h : i < 100) (w : World) :
    Calls Tryd.prog 57 #[.int .i64 i] w fun e w' => e = .returned (.string ⟨(Lib.decDigits i).toArray⟩) ∧ w' = w := Any.internal_strconv_small Tryd.lays283 i h w
def Tryd.laysM284_ren : Go.Shelf.Ren := ⟨fun | 284 => 58 | 129 => 64 | 317 => 63 | 318 => 65 | n => n, fun | 53 => 74 | 3 => 3 | 212 => 94 | 0 => 0 | 4 => 4 | 46 => 77 | 5 => 5 | 9 => 9 | n => n, fun | 17 => 2 | n => n⟩
theorem Tryd.laysM284 : Go.Proofs.LaysM.n284 Tryd.prog Tryd.laysM284_ren := {
 mixed := by kernel_rfl
 f129 := Tryd.func64.trans (congrArg some (by kernel_rfl))
 f284 := Tryd.func58.trans (congrArg some (by kernel_rfl))
 f317 := Tryd.func63.trans (congrArg some (by kernel_rfl))
 f318 := Tryd.func65.trans (congrArg some (by kernel_rfl))
 t0 := Tryd.underlying0
 a0 := Tryd.isAgg0
 z0 := Tryd.sizeOf0
 v0 := Tryd.zeroValue0
 t3 := Tryd.underlying3
 a3 := Tryd.isAgg3
 z3 := Tryd.sizeOf3
 v3 := Tryd.zeroValue3
 t4 := Tryd.underlying4
 a4 := Tryd.isAgg4
 z4 := Tryd.sizeOf4
 v4 := Tryd.zeroValue4
 t5 := Tryd.underlying5
 a5 := Tryd.isAgg5
 z5 := Tryd.sizeOf5
 v5 := Tryd.zeroValue5
 t9 := Tryd.underlying9
 a9 := Tryd.isAgg9
 z9 := Tryd.sizeOf9
 v9 := Tryd.zeroValue9
 t46 := Tryd.underlying77
 a46 := Tryd.isAgg77
 z46 := Tryd.sizeOf77
 v46 := Tryd.zeroValue77
 t53 := Tryd.underlying74
 a53 := Tryd.isAgg74
 z53 := Tryd.sizeOf74
 v53 := Tryd.zeroValue74
 t212 := Tryd.underlying94
 a212 := Tryd.isAgg94
 z212 := Tryd.sizeOf94
 v212 := Tryd.zeroValue94
 g17 := by kernel_rfl
 i0 := by kernel_rfl
 i3 := by kernel_rfl
 i4 := by kernel_rfl
 i5 := by kernel_rfl
 i9 := by kernel_rfl
 i46 := by kernel_rfl
 i53 := by kernel_rfl
 i212 := by kernel_rfl
 m17 := by kernel_rfl }
open Go.Lib in
theorem Tryd.internal_strconv_numDigits (u : Nat) (h1 : 1 ≤ u) (h2 : u < 18446744073709551616) (w : World) (htab : Lib.TabIs Tryd.prog w "internal/strconv.uint64pow10" .u64 Lib.pow10Tab) :
    Calls Tryd.prog 58 #[.int .u64 u] w fun e w' => e = .returned (.int .i64 (Lib.nDigits u)) ∧ w' = w := Any.internal_strconv_numDigits Tryd.laysM284 u h1 h2 w htab
def Tryd.lays285_ren : Go.Shelf.Ren := ⟨fun | 285 => 59 | n => n, fun | 37 => 66 | 53 => 74 | 3 => 3 | 4 => 4 | 51 => 95 | 9 => 9 | 5 => 5 | 0 => 0 | n => n, fun | n => n⟩
theorem Tryd.lays285 : Go.Proofs.Lays.n285 Tryd.prog Tryd.lays285_ren := {
 mixed := by kernel_rfl
 f285 := Tryd.func59.trans (congrArg some (by kernel_rfl))
 t0 := Tryd.underlying0
 a0 := Tryd.isAgg0
 z0 := Tryd.sizeOf0
 v0 := Tryd.zeroValue0
 t3 := Tryd.underlying3
 a3 := Tryd.isAgg3
 z3 := Tryd.sizeOf3
 v3 := Tryd.zeroValue3
 t4 := Tryd.underlying4
 a4 := Tryd.isAgg4
 z4 := Tryd.sizeOf4
 v4 := Tryd.zeroValue4
 t5 := Tryd.underlying5
 a5 := Tryd.isAgg5
 z5 := Tryd.sizeOf5
 v5 := Tryd.zeroValue5
 t9 := Tryd.underlying9
 a9 := Tryd.isAgg9
 z9 := Tryd.sizeOf9
 v9 := Tryd.zeroValue9
 t37 := Tryd.underlying66
 a37 := Tryd.isAgg66
 z37 := Tryd.sizeOf66
 v37 := Tryd.zeroValue66
 t51 := Tryd.underlying95
 a51 := Tryd.isAgg95
 z51 := Tryd.sizeOf95
 v51 := Tryd.zeroValue95
 t53 := Tryd.underlying74
 a53 := Tryd.isAgg74
 z53 := Tryd.sizeOf74
 v53 := Tryd.zeroValue74 }
open Go.RowKit Go.Sort Go.Lib in
theorem Tryd.internal_strconv_formatBase10 (blk off cap : Nat) (u : Nat) (d : Array UInt8) (w : World) (hH : Holds (fun (b : UInt8) => Value.int .u8 (b.toNat : Int)) w blk off d) (hu : u < 10 ^ d.size) (hu64 : u < 18446744073709551616) (hsz : d.size < 4611686018427387904) :
    Calls Tryd.prog 59 #[.slice (some ⟨blk, off, none⟩) d.size cap, .int .u64 u] w fun e w' =>
      e = .returned (.tuple #[]) ∧ ∃ (n v' : Nat) (dk : Array UInt8), w' = (putRow (fun (b : UInt8) => Value.int .u8 (b.toNat : Int)) w blk off dk).drewN n ∧ FmtInv d.size u 0 v' dk := Any.internal_strconv_formatBase10 Tryd.lays285 blk off cap u d w hH hu hu64 hsz
def Tryd.laysM246_ren : Go.Shelf.Ren := ⟨fun | 246 => 53 | 283 => 57 | 284 => 58 | 285 => 59 | 286 => 60 | 129 => 64 | 317 => 63 | 318 => 65 | 319 => 66 | 320 => 67 | 337 => 68 | 338 => 69 | n => n, fun | 2 => 2 | 3 => 3 | 9 => 9 | 4 => 4 | 171 => 82 | 0 => 0 | 53 => 74 | 37 => 66 | 5 => 5 | 173 => 85 | 212 => 94 | 51 => 95 | 20 => 20 | 213 => 96 | 46 => 77 | 232 => 99 | 233 => 100 | n => n, fun | 17 => 2 | 18 => 3 | 19 => 4 | n => n⟩
theorem Tryd.laysM246 : Go.Proofs.LaysM.n246 Tryd.prog Tryd.laysM246_ren := {
 mixed := by kernel_rfl
 f129 := Tryd.func64.trans (congrArg some (by kernel_rfl))
 f246 := Tryd.func53.trans (congrArg some (by kernel_rfl))
 f283 := Tryd.func57.trans (congrArg some (by kernel_rfl))
 f284 := Tryd.func58.trans (congrArg some (by kernel_rfl))
 f285 := Tryd.func59.trans (congrArg some (by kernel_rfl))
 f286 := Tryd.func60.trans (congrArg some (by kernel_rfl))
 f317 := Tryd.func63.trans (congrArg some (by kernel_rfl))
 f318 := Tryd.func65.trans (congrArg some (by kernel_rfl))
 f319 := Tryd.func66.trans (congrArg some (by kernel_rfl))
 f320 := Tryd.func67.trans (congrArg some (by kernel_rfl))
 f337 := Tryd.func68.trans (congrArg some (by kernel_rfl))
 f338 := Tryd.func69.trans (congrArg some (by kernel_rfl))
 t0 := Tryd.underlying0
 a0 := Tryd.isAgg0
 z0 := Tryd.sizeOf0
 v0 := Tryd.zeroValue0
 t2 := Tryd.underlying2
 a2 := Tryd.isAgg2
 z2 := Tryd.sizeOf2
 v2 := Tryd.zeroValue2
 t3 := Tryd.underlying3
 a3 := Tryd.isAgg3
 z3 := Tryd.sizeOf3
 v3 := Tryd.zeroValue3
 t4 := Tryd.underlying4
 a4 := Tryd.isAgg4
 z4 := Tryd.sizeOf4
 v4 := Tryd.zeroValue4
 t5 := Tryd.underlying5
 a5 := Tryd.isAgg5
 z5 := Tryd.sizeOf5
 v5 := Tryd.zeroValue5
 t9 := Tryd.underlying9
 a9 := Tryd.isAgg9
 z9 := Tryd.sizeOf9
 v9 := Tryd.zeroValue9
 t20 := Tryd.underlying20
 a20 := Tryd.isAgg20
 z20 := Tryd.sizeOf20
 v20 := Tryd.zeroValue20
 t37 := Tryd.underlying66
 a37 := Tryd.isAgg66
 z37 := Tryd.sizeOf66
 v37 := Tryd.zeroValue66
 t46 := Tryd.underlying77
 a46 := Tryd.isAgg77
 z46 := Tryd.sizeOf77
 v46 := Tryd.zeroValue77
 t51 := Tryd.underlying95
 a51 := Tryd.isAgg95
 z51 := Tryd.sizeOf95
 v51 := Tryd.zeroValue95
 t53 := Tryd.underlying74
 a53 := Tryd.isAgg74
 z53 := Tryd.sizeOf74
 v53 := Tryd.zeroValue74
 t171 := Tryd.underlying82
 a171 := Tryd.isAgg82
 z171 := Tryd.sizeOf82
 v171 := Tryd.zeroValue82
 t173 := Tryd.underlying85
 a173 := Tryd.isAgg85
 z173 := Tryd.sizeOf85
 v173 := Tryd.zeroValue85
 t212 := Tryd.underlying94
 a212 := Tryd.isAgg94
 z212 := Tryd.sizeOf94
 v212 := Tryd.zeroValue94
 t213 := Tryd.underlying96
 a213 := Tryd.isAgg96
 z213 := Tryd.sizeOf96
 t232 := Tryd.underlying99
 a232 := Tryd.isAgg99
 z232 := Tryd.sizeOf99
 v232 := Tryd.zeroValue99
 t233 := Tryd.underlying100
 a233 := Tryd.isAgg100
 z233 := Tryd.sizeOf100
 v233 := Tryd.zeroValue100
 g17 := by kernel_rfl
 g18 := by kernel_rfl
 g19 := by kernel_rfl
 i0 := by kernel_rfl
 i2 := by kernel_rfl
 i3 := by kernel_rfl
 i4 := by kernel_rfl
 i5 := by kernel_rfl
 i9 := by kernel_rfl
 i20 := by kernel_rfl
 i37 := by kernel_rfl
 i46 := by kernel_rfl
 i51 := by kernel_rfl
 i53 := by kernel_rfl
 i171 := by kernel_rfl
 i173 := by kernel_rfl
 i212 := by kernel_rfl
 i232 := by kernel_rfl
 i233 := by kernel_rfl
 m17 := by kernel_rfl
 m18 := by kernel_rfl
 m19 := by kernel_rfl }
open Go.RowKit Go.Sort Go.Lib in
theorem Tryd.internal_strconv_FormatInt_10 (n : Int) (h0 : -9223372036854775808 ≤ n) (h1 : n ≤ 9223372036854775807) (w : World) (htab : Lib.TabIs Tryd.prog w "internal/strconv.uint64pow10" .u64 Lib.pow10Tab) :
    Calls Tryd.prog 53 #[.int .i64 n, .int .i64 10] w fun e w' => e = .returned (.string ⟨(Lib.itoa n).toArray⟩) ∧ ∃ k os, w' = grow (w.drewN k) os := Any.internal_strconv_FormatInt_10 Tryd.laysM246 n h0 h1 w htab
def Tryd.lays246_ren : Go.Shelf.Ren := ⟨fun | 246 => 53 | 283 => 57 | 284 => 58 | 285 => 59 | 286 => 60 | 129 => 64 | 317 => 63 | 318 => 65 | 319 => 66 | 320 => 67 | 337 => 68 | 338 => 69 | n => n, fun | 2 => 2 | 3 => 3 | 9 => 9 | 4 => 4 | 171 => 82 | 0 => 0 | 53 => 74 | 37 => 66 | 5 => 5 | 173 => 85 | 212 => 94 | 51 => 95 | 20 => 20 | 213 => 96 | 46 => 77 | 232 => 99 | 233 => 100 | n => n, fun | 17 => 2 | 18 => 3 | 19 => 4 | n => n⟩
theorem Tryd.lays246 : Go.Proofs.Lays.n246 Tryd.prog Tryd.lays246_ren := {
 mixed := by kernel_rfl
 f129 := Tryd.func64.trans (congrArg some (by kernel_rfl))
 f246 := Tryd.func53.trans (congrArg some (by kernel_rfl))
 f283 := Tryd.func57.trans (congrArg some (by kernel_rfl))
 f284 := Tryd.func58.trans (congrArg some (by kernel_rfl))
 f285 := Tryd.func59.trans (congrArg some (by kernel_rfl))
 f286 := Tryd.func60.trans (congrArg some (by kernel_rfl))
 f317 := Tryd.func63.trans (congrArg some (by kernel_rfl))
 f318 := Tryd.func65.trans (congrArg some (by kernel_rfl))
 f319 := Tryd.func66.trans (congrArg some (by kernel_rfl))
 f320 := Tryd.func67.trans (congrArg some (by kernel_rfl))
 f337 := Tryd.func68.trans (congrArg some (by kernel_rfl))
 f338 := Tryd.func69.trans (congrArg some (by kernel_rfl))
 t0 := Tryd.underlying0
 a0 := Tryd.isAgg0
 z0 := Tryd.sizeOf0
 v0 := Tryd.zeroValue0
 t2 := Tryd.underlying2
 a2 := Tryd.isAgg2
 z2 := Tryd.sizeOf2
 v2 := Tryd.zeroValue2
 t3 := Tryd.underlying3
 a3 := Tryd.isAgg3
 z3 := Tryd.sizeOf3
 v3 := Tryd.zeroValue3
 t4 := Tryd.underlying4
 a4 := Tryd.isAgg4
 z4 := Tryd.sizeOf4
 v4 := Tryd.zeroValue4
 t5 := Tryd.underlying5
 a5 := Tryd.isAgg5
 z5 := Tryd.sizeOf5
 v5 := Tryd.zeroValue5
 t9 := Tryd.underlying9
 a9 := Tryd.isAgg9
 z9 := Tryd.sizeOf9
 v9 := Tryd.zeroValue9
 t20 := Tryd.underlying20
 a20 := Tryd.isAgg20
 z20 := Tryd.sizeOf20
 v20 := Tryd.zeroValue20
 t37 := Tryd.underlying66
 a37 := Tryd.isAgg66
 z37 := Tryd.sizeOf66
 v37 := Tryd.zeroValue66
 t46 := Tryd.underlying77
 a46 := Tryd.isAgg77
 z46 := Tryd.sizeOf77
 v46 := Tryd.zeroValue77
 t51 := Tryd.underlying95
 a51 := Tryd.isAgg95
 z51 := Tryd.sizeOf95
 v51 := Tryd.zeroValue95
 t53 := Tryd.underlying74
 a53 := Tryd.isAgg74
 z53 := Tryd.sizeOf74
 v53 := Tryd.zeroValue74
 t171 := Tryd.underlying82
 a171 := Tryd.isAgg82
 z171 := Tryd.sizeOf82
 v171 := Tryd.zeroValue82
 t173 := Tryd.underlying85
 a173 := Tryd.isAgg85
 z173 := Tryd.sizeOf85
 v173 := Tryd.zeroValue85
 t212 := Tryd.underlying94
 a212 := Tryd.isAgg94
 z212 := Tryd.sizeOf94
 v212 := Tryd.zeroValue94
 t213 := Tryd.underlying96
 a213 := Tryd.isAgg96
 z213 := Tryd.sizeOf96
 t232 := Tryd.underlying99
 a232 := Tryd.isAgg99
 z232 := Tryd.sizeOf99
 v232 := Tryd.zeroValue99
 t233 := Tryd.underlying100
 a233 := Tryd.isAgg100
 z233 := Tryd.sizeOf100
 v233 := Tryd.zeroValue100
 g17 := by kernel_rfl
 g18 := by kernel_rfl
 g19 := by kernel_rfl }
open Go.RowKit Go.Sort Go.Lib in
theorem Tryd.internal_strconv_FormatInt_10_small (i : Nat) (hi : i < 100) (w : World) :
    Calls Tryd.prog 53 #[.int .i64 i, .int .i64 10] w fun e w' => e = .returned (.string ⟨(Lib.decDigits i).toArray⟩) ∧ w' = w := Any.internal_strconv_FormatInt_10_small Tryd.lays246 i hi w
def Tryd.laysM243_ren : Go.Shelf.Ren := ⟨fun | 243 => 47 | 246 => 53 | 283 => 57 | 284 => 58 | 285 => 59 | 286 => 60 | 129 => 64 | 317 => 63 | 318 => 65 | 319 => 66 | 320 => 67 | 337 => 68 | 338 => 69 | n => n, fun | 3 => 3 | 9 => 9 | 2 => 2 | 4 => 4 | 171 => 82 | 0 => 0 | 53 => 74 | 37 => 66 | 5 => 5 | 173 => 85 | 212 => 94 | 51 => 95 | 20 => 20 | 213 => 96 | 46 => 77 | 232 => 99 | 233 => 100 | n => n, fun | 17 => 2 | 18 => 3 | 19 => 4 | n => n⟩
theorem Tryd.laysM243 : Go.Proofs.LaysM.n243 Tryd.prog Tryd.laysM243_ren := {
 mixed := by kernel_rfl
 f129 := Tryd.func64.trans (congrArg some (by kernel_rfl))
 f243 := Tryd.func47.trans (congrArg some (by kernel_rfl))
 f246 := Tryd.func53.trans (congrArg some (by kernel_rfl))
 f283 := Tryd.func57.trans (congrArg some (by kernel_rfl))
 f284 := Tryd.func58.trans (congrArg some (by kernel_rfl))
 f285 := Tryd.func59.trans (congrArg some (by kernel_rfl))
 f286 := Tryd.func60.trans (congrArg some (by kernel_rfl))
 f317 := Tryd.func63.trans (congrArg some (by kernel_rfl))
 f318 := Tryd.func65.trans (congrArg some (by kernel_rfl))
 f319 := Tryd.func66.trans (congrArg some (by kernel_rfl))
 f320 := Tryd.func67.trans (congrArg some (by kernel_rfl))
 f337 := Tryd.func68.trans (congrArg some (by kernel_rfl))
 f338 := Tryd.func69.trans (congrArg some (by kernel_rfl))
 t0 := Tryd.underlying0
 a0 := Tryd.isAgg0
 z0 := Tryd.sizeOf0
 v0 := Tryd.zeroValue0
 t2 := Tryd.underlying2
 a2 := Tryd.isAgg2
 z2 := Tryd.sizeOf2
 v2 := Tryd.zeroValue2
 t3 := Tryd.underlying3
 a3 := Tryd.isAgg3
 z3 := Tryd.sizeOf3
 v3 := Tryd.zeroValue3
 t4 := Tryd.underlying4
 a4 := Tryd.isAgg4
 z4 := Tryd.sizeOf4
 v4 := Tryd.zeroValue4
 t5 := Tryd.underlying5
 a5 := Tryd.isAgg5
 z5 := Tryd.sizeOf5
 v5 := Tryd.zeroValue5
 t9 := Tryd.underlying9
 a9 := Tryd.isAgg9
 z9 := Tryd.sizeOf9
 v9 := Tryd.zeroValue9
 t20 := Tryd.underlying20
 a20 := Tryd.isAgg20
 z20 := Tryd.sizeOf20
 v20 := Tryd.zeroValue20
 t37 := Tryd.underlying66
 a37 := Tryd.isAgg66
 z37 := Tryd.sizeOf66
 v37 := Tryd.zeroValue66
 t46 := Tryd.underlying77
 a46 := Tryd.isAgg77
 z46 := Tryd.sizeOf77
 v46 := Tryd.zeroValue77
 t51 := Tryd.underlying95
 a51 := Tryd.isAgg95
 z51 := Tryd.sizeOf95
 v51 := Tryd.zeroValue95
 t53 := Tryd.underlying74
 a53 := Tryd.isAgg74
 z53 := Tryd.sizeOf74
 v53 := Tryd.zeroValue74
 t171 := Tryd.underlying82
 a171 := Tryd.isAgg82
 z171 := Tryd.sizeOf82
 v171 := Tryd.zeroValue82
 t173 := Tryd.underlying85
 a173 := Tryd.isAgg85
 z173 := Tryd.sizeOf85
 v173 := Tryd.zeroValue85
 t212 := Tryd.underlying94
 a212 := Tryd.isAgg94
 z212 := Tryd.sizeOf94
 v212 := Tryd.zeroValue94
 t213 := Tryd.underlying96
 a213 := Tryd.isAgg96
 z213 := Tryd.sizeOf96
 t232 := Tryd.underlying99
 a232 := Tryd.isAgg99
 z232 := Tryd.sizeOf99
 v232 := Tryd.zeroValue99
 t233 := Tryd.underlying100
 a233 := Tryd.isAgg100
 z233 := Tryd.sizeOf100
 v233 := Tryd.zeroValue100
 g17 := by kernel_rfl
 g18 := by kernel_rfl
 g19 := by kernel_rfl
 i0 := by kernel_rfl
 i2 := by kernel_rfl
 i3 := by kernel_rfl
 i4 := by kernel_rfl
 i5 := by kernel_rfl
 i9 := by kernel_rfl
 i20 := by kernel_rfl
 i37 := by kernel_rfl
 i46 := by kernel_rfl
 i51 := by kernel_rfl
 i53 := by kernel_rfl
 i171 := by kernel_rfl
 i173 := by kernel_rfl
 i212 := by kernel_rfl
 i232 := by kernel_rfl
 i233 := by kernel_rfl
 m17 := by kernel_rfl
 m18 := by kernel_rfl
 m19 := by kernel_rfl }
open Go.RowKit Go.Sort Go.Lib in
theorem Tryd.internal_strconv_Itoa (n : Int) (h0 : -9223372036854775808 ≤ n) (h1 : n ≤ 9223372036854775807) (w : World) (htab : Lib.TabIs Tryd.prog w "internal/strconv.uint64pow10" .u64 Lib.pow10Tab) :
    Calls Tryd.prog 47 #[.int .i64 n] w fun e w' => e = .returned (.string ⟨(Lib.itoa n).toArray⟩) ∧ ∃ k os, w' = grow (w.drewN k) os := Any.internal_strconv_Itoa Tryd.laysM243 n h0 h1 w htab
def Tryd.lays243_ren : Go.Shelf.Ren := ⟨fun | 243 => 47 | 246 => 53 | 283 => 57 | 284 => 58 | 285 => 59 | 286 => 60 | 129 => 64 | 317 => 63 | 318 => 65 | 319 => 66 | 320 => 67 | 337 => 68 | 338 => 69 | n => n, fun | 3 => 3 | 9 => 9 | 2 => 2 | 4 => 4 | 171 => 82 | 0 => 0 | 53 => 74 | 37 => 66 | 5 => 5 | 173 => 85 | 212 => 94 | 51 => 95 | 20 => 20 | 213 => 96 | 46 => 77 | 232 => 99 | 233 => 100 | n => n, fun | 17 => 2 | 18 => 3 | 19 => 4 | n => n⟩
theorem Tryd.lays243 : Go.Proofs.Lays.n243 Tryd.prog Tryd.lays243_ren := {
 mixed := by kernel_rfl
 f129 := Tryd.func64.trans (congrArg some (by kernel_rfl))
 f243 := Tryd.func47.trans (congrArg some (by kernel_rfl))
 f246 := Tryd.func53.trans (congrArg some (by kernel_rfl))
 f283 := Tryd.func57.trans (congrArg some (by kernel_rfl))
 f284 := Tryd.func58.trans (congrArg some (by kernel_rfl))
 f285 := Tryd.func59.trans (congrArg some (by kernel_rfl))
 f286 := Tryd.func60.trans (congrArg some (by kernel_rfl))
 f317 := Tryd.func63.trans (congrArg some (by kernel_rfl))
 f318 := Tryd.func65.trans (congrArg some (by kernel_rfl))
 f319 := Tryd.func66.trans (congrArg some (by kernel_rfl))
 f320 := Tryd.func67.trans (congrArg some (by kernel_rfl))
 f337 := Tryd.func68.trans (congrArg some (by kernel_rfl))
 f338 := Tryd.func69.trans (congrArg some (by kernel_rfl))
 t0 := Tryd.underlying0
 a0 := Tryd.isAgg0
 z0 := Tryd.sizeOf0
 v0 := Tryd.zeroValue0
 t2 := Tryd.underlying2
 a2 := Tryd.isAgg2
 z2 := Tryd.sizeOf2
 v2 := Tryd.zeroValue2
 t3 := Tryd.underlying3
 a3 := Tryd.isAgg3
 z3 := Tryd.sizeOf3
 v3 := Tryd.zeroValue3
 t4 := Tryd.underlying4
 a4 := Tryd.isAgg4
 z4 := Tryd.sizeOf4
 v4 := Tryd.zeroValue4
 t5 := Tryd.underlying5
 a5 := Tryd.isAgg5
 z5 := Tryd.sizeOf5
 v5 := Tryd.zeroValue5
 t9 := Tryd.underlying9
 a9 := Tryd.isAgg9
 z9 := Tryd.sizeOf9
 v9 := Tryd.zeroValue9
 t20 := Tryd.underlying20
 a20 := Tryd.isAgg20
 z20 := Tryd.sizeOf20
 v20 := Tryd.zeroValue20
 t37 := Tryd.underlying66
 a37 := Tryd.isAgg66
 z37 := Tryd.sizeOf66
 v37 := Tryd.zeroValue66
 t46 := Tryd.underlying77
 a46 := Tryd.isAgg77
 z46 := Tryd.sizeOf77
 v46 := Tryd.zeroValue77
 t51 := Tryd.underlying95
 a51 := Tryd.isAgg95
 z51 := Tryd.sizeOf95
 v51 := Tryd.zeroValue95
 t53 := Tryd.underlying74
 a53 := Tryd.isAgg74
 z53 := Tryd.sizeOf74
 v53 := Tryd.zeroValue74
 t171 := Tryd.underlying82
 a171 := Tryd.isAgg82
 z171 := Tryd.sizeOf82
 v171 := Tryd.zeroValue82
 t173 := Tryd.underlying85
 a173 := Tryd.isAgg85
 z173 := Tryd.sizeOf85
 v173 := Tryd.zeroValue85
 t212 := Tryd.underlying94
 a212 := Tryd.isAgg94
 z212 := Tryd.sizeOf94
 v212 := Tryd.zeroValue94
 t213 := Tryd.underlying96
 a213 := Tryd.isAgg96
 z213 := Tryd.sizeOf96
 t232 := Tryd.underlying99
 a232 := Tryd.isAgg99
 z232 := Tryd.sizeOf99
 v232 := Tryd.zeroValue99
 t233 := Tryd.underlying100
 a233 := Tryd.isAgg100
 z233 := Tryd.sizeOf100
 v233 := Tryd.zeroValue100
 g17 := by kernel_rfl
 g18 := by kernel_rfl
 g19 := by kernel_rfl }
open Go.RowKit Go.Sort Go.Lib in
theorem Tryd.internal_strconv_Itoa_small (i : Nat) (hi : i < 100) (w : World) :
    Calls Tryd.prog 47 #[.int .i64 i] w fun e w' => e = .returned (.string ⟨(Lib.decDigits i).toArray⟩) ∧ w' = w := Any.internal_strconv_Itoa_small Tryd.lays243 i hi w
def Tryd.laysM171_ren : Go.Shelf.Ren := ⟨fun | 171 => 38 | 243 => 47 | 246 => 53 | 283 => 57 | 284 => 58 | 285 => 59 | 286 => 60 | 129 => 64 | 317 => 63 | 318 => 65 | 319 => 66 | 320 => 67 | 337 => 68 | 338 => 69 | n => n, fun | 3 => 3 | 9 => 9 | 2 => 2 | 4 => 4 | 171 => 82 | 0 => 0 | 53 => 74 | 37 => 66 | 5 => 5 | 173 => 85 | 212 => 94 | 51 => 95 | 20 => 20 | 213 => 96 | 46 => 77 | 232 => 99 | 233 => 100 | n => n, fun | 17 => 2 | 18 => 3 | 19 => 4 | n => n⟩
theorem Tryd.laysM171 : Go.Proofs.LaysM.n171 Tryd.prog Tryd.laysM171_ren := {
 mixed := by kernel_rfl
 f129 := Tryd.func64.trans (congrArg some (by kernel_rfl))
 f171 := Tryd.func38.trans (congrArg some (by kernel_rfl))
 f243 := Tryd.func47.trans (congrArg some (by kernel_rfl))
 f246 := Tryd.func53.trans (congrArg some (by kernel_rfl))
 f283 := Tryd.func57.trans (congrArg some (by kernel_rfl))
 f284 := Tryd.func58.trans (congrArg some (by kernel_rfl))
 f285 := Tryd.func59.trans (congrArg some (by kernel_rfl))
 f286 := Tryd.func60.trans (congrArg some (by kernel_rfl))
 f317 := Tryd.func63.trans (congrArg some (by kernel_rfl))
 f318 := Tryd.func65.trans (congrArg some (by kernel_rfl))
 f319 := Tryd.func66.trans (congrArg some (by kernel_rfl))
 f320 := Tryd.func67.trans (congrArg some (by kernel_rfl))
 f337 := Tryd.func68.trans (congrArg some (by kernel_rfl))
 f338 := Tryd.func69.trans (congrArg some (by kernel_rfl))
 t0 := Tryd.underlying0
 a0 := Tryd.isAgg0
 z0 := Tryd.sizeOf0
 v0 := Tryd.zeroValue0
 t2 := Tryd.underlying2
 a2 := Tryd.isAgg2
 z2 := Tryd.sizeOf2
 v2 := Tryd.zeroValue2
 t3 := Tryd.underlying3
 a3 := Tryd.isAgg3
 z3 := Tryd.sizeOf3
 v3 := Tryd.zeroValue3
 t4 := Tryd.underlying4
 a4 := Tryd.isAgg4
 z4 := Tryd.sizeOf4
 v4 := Tryd.zeroValue4
 t5 := Tryd.underlying5
 a5 := Tryd.isAgg5
 z5 := Tryd.sizeOf5
 v5 := Tryd.zeroValue5
 t9 := Tryd.underlying9
 a9 := Tryd.isAgg9
 z9 := Tryd.sizeOf9
 v9 := Tryd.zeroValue9
 t20 := Tryd.underlying20
 a20 := Tryd.isAgg20
 z20 := Tryd.sizeOf20
 v20 := Tryd.zeroValue20
 t37 := Tryd.underlying66
 a37 := Tryd.isAgg66
 z37 := Tryd.sizeOf66
 v37 := Tryd.zeroValue66
 t46 := Tryd.underlying77
 a46 := Tryd.isAgg77
 z46 := Tryd.sizeOf77
 v46 := Tryd.zeroValue77
 t51 := Tryd.underlying95
 a51 := Tryd.isAgg95
 z51 := Tryd.sizeOf95
 v51 := Tryd.zeroValue95
 t53 := Tryd.underlying74
 a53 := Tryd.isAgg74
 z53 := Tryd.sizeOf74
 v53 := Tryd.zeroValue74
 t171 := Tryd.underlying82
 a171 := Tryd.isAgg82
 z171 := Tryd.sizeOf82
 v171 := Tryd.zeroValue82
 t173 := Tryd.underlying85
 a173 := Tryd.isAgg85
 z173 := Tryd.sizeOf85
 v173 := Tryd.zeroValue85
 t212 := Tryd.underlying94
 a212 := Tryd.isAgg94
 z212 := Tryd.sizeOf94
 v212 := Tryd.zeroValue94
 t213 := Tryd.underlying96
 a213 := Tryd.isAgg96
 z213 := Tryd.sizeOf96
 t232 := Tryd.underlying99
 a232 := Tryd.isAgg99
 z232 := Tryd.sizeOf99
 v232 := Tryd.zeroValue99
 t233 := Tryd.underlying100
 a233 := Tryd.isAgg100
 z233 := Tryd.sizeOf100
 v233 := Tryd.zeroValue100
 g17 := by kernel_rfl
 g18 := by kernel_rfl
 g19 := by kernel_rfl
 i0 := by kernel_rfl
 i2 := by kernel_rfl
 i3 := by kernel_rfl
 i4 := by kernel_rfl
 i5 := by kernel_rfl
 i9 := by kernel_rfl
 i20 := by kernel_rfl
 i37 := by kernel_rfl
 i46 := by kernel_rfl
 i51 := by kernel_rfl
 i53 := by kernel_rfl
 i171 := by kernel_rfl
 i173 := by kernel_rfl
 i212 := by kernel_rfl
 i232 := by kernel_rfl
 i233 := by kernel_rfl
 m17 := by kernel_rfl
 m18 := by kernel_rfl
 m19 := by kernel_rfl }
open Go.RowKit Go.Sort Go.Lib in
theorem Tryd.strconv_Itoa (n : Int) (h0 : -9223372036854775808 ≤ n) (h1 : n ≤ 9223372036854775807) (w : World) (htab : Lib.TabIs Tryd.prog w "internal/strconv.uint64pow10" .u64 Lib.pow10Tab) :
    Calls Tryd.prog 38 #[.int .i64 n] w fun e w' => e = .returned (.string ⟨(Lib.itoa n).toArray⟩) ∧ ∃ k os, w' = grow (w.drewN k) os := Any.strconv_Itoa Tryd.laysM171 n h0 h1 w htab
def Tryd.lays171_ren : Go.Shelf.Ren := ⟨fun | 171 => 38 | 243 => 47 | 246 => 53 | 283 => 57 | 284 => 58 | 285 => 59 | 286 => 60 | 129 => 64 | 317 => 63 | 318 => 65 | 319 => 66 | 320 => 67 | 337 => 68 | 338 => 69 | n => n, fun | 3 => 3 | 9 => 9 | 2 => 2 | 4 => 4 | 171 => 82 | 0 => 0 | 53 => 74 | 37 => 66 | 5 => 5 | 173 => 85 | 212 => 94 | 51 => 95 | 20 => 20 | 213 => 96 | 46 => 77 | 232 => 99 | 233 => 100 | n => n, fun | 17 => 2 | 18 => 3 | 19 => 4 | n => n⟩
theorem Tryd.lays171 : Go.Proofs.Lays.n171 Tryd.prog Tryd.lays171_ren := {
 mixed := by kernel_rfl
 f129 := Tryd.func64.trans (congrArg some (by kernel_rfl))
 f171 := Tryd.func38.trans (congrArg some (by kernel_rfl))
 f243 := Tryd.func47.trans (congrArg some (by kernel_rfl))
 f246 := Tryd.func53.trans (congrArg some (by kernel_rfl))
 f283 := Tryd.func57.trans (congrArg some (by kernel_rfl))
 f284 := Tryd.func58.trans (congrArg some (by kernel_rfl))
 f285 := Tryd.func59.trans (congrArg some (by kernel_rfl))
 f286 := Tryd.func60.trans (congrArg some (by kernel_rfl))
 f317 := Tryd.func63.trans (congrArg some (by kernel_rfl))
 f318 := Tryd.func65.trans (congrArg some (by kernel_rfl))
 f319 := Tryd.func66.trans (congrArg some (by kernel_rfl))
 f320 := Tryd.func67.trans (congrArg some (by kernel_rfl))
 f337 := Tryd.func68.trans (congrArg some (by kernel_rfl))
 f338 := Tryd.func69.trans (congrArg some (by kernel_rfl))
 t0 := Tryd.underlying0
 a0 := Tryd.isAgg0
 z0 := Tryd.sizeOf0
 v0 := Tryd.zeroValue0
 t2 := Tryd.underlying2
 a2 := Tryd.isAgg2
 z2 := Tryd.sizeOf2
 v2 := Tryd.zeroValue2
 t3 := Tryd.underlying3
 a3 := Tryd.isAgg3
 z3 := Tryd.sizeOf3
 v3 := Tryd.zeroValue3
 t4 := Tryd.underlying4
 a4 := Tryd.isAgg4
 z4 := Tryd.sizeOf4
 v4 := Tryd.zeroValue4
 t5 := Tryd.underlying5
 a5 := Tryd.isAgg5
 z5 := Tryd.sizeOf5
 v5 := Tryd.zeroValue5
 t9 := Tryd.underlying9
 a9 := Tryd.isAgg9
 z9 := Tryd.sizeOf9
 v9 := Tryd.zeroValue9
 t20 := Tryd.underlying20
 a20 := Tryd.isAgg20
 z20 := Tryd.sizeOf20
 v20 := Tryd.zeroValue20
 t37 := Tryd.underlying66
 a37 := Tryd.isAgg66
 z37 := Tryd.sizeOf66
 v37 := Tryd.zeroValue66
 t46 := Tryd.underlying77
 a46 := Tryd.isAgg77
 z46 := Tryd.sizeOf77
 v46 := Tryd.zeroValue77
 t51 := Tryd.underlying95
 a51 := Tryd.isAgg95
 z51 := Tryd.sizeOf95
 v51 := Tryd.zeroValue95
 t53 := Tryd.underlying74
 a53 := Tryd.isAgg74
 z53 := Tryd.sizeOf74
 v53 := Tryd.zeroValue74
 t171 := Tryd.underlying82
 a171 := Tryd.isAgg82
 z171 := Tryd.sizeOf82
 v171 := Tryd.zeroValue82
 t173 := Tryd.underlying85
 a173 := Tryd.isAgg85
 z173 := Tryd.sizeOf85
 v173 := Tryd.zeroValue85
 t212 := Tryd.underlying94
 a212 := Tryd.isAgg94
 z212 := Tryd.sizeOf94
 v212 := Tryd.zeroValue94
 t213 := Tryd.underlying96
 a213 := Tryd.isAgg96
 z213 := Tryd.sizeOf96
 t232 := Tryd.underlying99
 a232 := Tryd.isAgg99
 z232 := Tryd.sizeOf99
 v232 := Tryd.zeroValue99
 t233 := Tryd.underlying100
 a233 := Tryd.isAgg100
 z233 := Tryd.sizeOf100
 v233 := Tryd.zeroValue100
 g17 := by kernel_rfl
 g18 := by kernel_rfl
 g19 := by kernel_rfl }
open Go.RowKit Go.Sort Go.Lib in
theorem Tryd.strconv_Itoa_small (i : Nat) (hi : i < 100) (w : World) :
    Calls Tryd.prog 38 #[.int .i64 i] w fun e w' => e = .returned (.string ⟨(Lib.decDigits i).toArray⟩) ∧ w' = w := Any.strconv_Itoa_small Tryd.lays171 i hi w
open Go.RowKit in
theorem Tryd.internal_strconv_Atoi_err (s : ByteArray) (hl0 : 1 ≤ s.size) (hl : s.size ≤ 18) (h : Lib.atoi s.data.toList = none) (w : World) :
    Calls Tryd.prog 45 #[.string s] w fun e w' => e = .returned (.tuple #[.int .i64 0, (.iface 67 (.int .i64 2))]) ∧ (w' = w ∨ ∃ t, w' = Lib.bytesWorld w 5 t) := Any.internal_strconv_Atoi_err Tryd.lays244 s hl0 hl h w
def Tryd.lays247_ren : Go.Shelf.Ren := ⟨fun | 247 => 48 | 287 => 54 | 321 => 61 | 322 => 62 | n => n, fun | 9 => 9 | 3 => 3 | 2 => 2 | 75 => 53 | 4 => 4 | 167 => 67 | 5 => 5 | 53 => 74 | 175 => 75 | 46 => 77 | 37 => 66 | 0 => 0 | 21 => 21 | 80 => 101 | n => n, fun | n => n⟩
theorem Tryd.lays247 : Go.Proofs.Lays.n247 Tryd.prog Tryd.lays247_ren := {
 mixed := by kernel_rfl
 f247 := Tryd.func48.trans (congrArg some (by kernel_rfl))
 f287 := Tryd.func54.trans (congrArg some (by kernel_rfl))
 f321 := Tryd.func61.trans (congrArg some (by kernel_rfl))
 f322 := Tryd.func62.trans (congrArg some (by kernel_rfl))
 t0 := Tryd.underlying0
 a0 := Tryd.isAgg0
 z0 := Tryd.sizeOf0
 v0 := Tryd.zeroValue0
 t2 := Tryd.underlying2
 a2 := Tryd.isAgg2
 z2 := Tryd.sizeOf2
 v2 := Tryd.zeroValue2
 t3 := Tryd.underlying3
 a3 := Tryd.isAgg3
 z3 := Tryd.sizeOf3
 v3 := Tryd.zeroValue3
 t4 := Tryd.underlying4
 a4 := Tryd.isAgg4
 z4 := Tryd.sizeOf4
 v4 := Tryd.zeroValue4
 t5 := Tryd.underlying5
 a5 := Tryd.isAgg5
 z5 := Tryd.sizeOf5
 v5 := Tryd.zeroValue5
 t9 := Tryd.underlying9
 a9 := Tryd.isAgg9
 z9 := Tryd.sizeOf9
 v9 := Tryd.zeroValue9
 t21 := Tryd.underlying21
 a21 := Tryd.isAgg21
 z21 := Tryd.sizeOf21
 v21 := Tryd.zeroValue21
 t37 := Tryd.underlying66
 a37 := Tryd.isAgg66
 z37 := Tryd.sizeOf66
 v37 := Tryd.zeroValue66
 t46 := Tryd.underlying77
 a46 := Tryd.isAgg77
 z46 := Tryd.sizeOf77
 v46 := Tryd.zeroValue77
 t53 := Tryd.underlying74
 a53 := Tryd.isAgg74
 z53 := Tryd.sizeOf74
 v53 := Tryd.zeroValue74
 t75 := Tryd.underlying53
 a75 := Tryd.isAgg53
 z75 := Tryd.sizeOf53
 v75 := Tryd.zeroValue53
 t167 := Tryd.underlying67
 a167 := Tryd.isAgg67
 z167 := Tryd.sizeOf67
 v167 := Tryd.zeroValue67
 t175 := Tryd.underlying75
 a175 := Tryd.isAgg75
 z175 := Tryd.sizeOf75
 v175 := Tryd.zeroValue75 }
open Go.RowKit in
theorem Tryd.internal_strconv_ParseInt_empty (base bits : Int) (w : World) :
    Calls Tryd.prog 48 #[.string ⟨#[]⟩, .int .i64 base, .int .i64 bits] w fun e w' => e = .returned (.tuple #[.int .i64 0, (.iface 67 (.int .i64 2))]) ∧ w' = w := Any.internal_strconv_ParseInt_empty Tryd.lays247 base bits w
open Go.RowKit in
theorem Tryd.internal_strconv_Atoi_empty (w : World) :
    Calls Tryd.prog 45 #[.string ⟨#[]⟩] w fun e w' => e = .returned (.tuple #[.int .i64 0, (.iface 67 (.int .i64 2))]) ∧ w' = w := Any.internal_strconv_Atoi_empty Tryd.lays244 w
open Go.RowKit in
theorem Tryd.internal_strconv_Atoi_fail (s : ByteArray) (hl : s.size ≤ 18) (h : Lib.atoi s.data.toList = none) (w : World) :
    Calls Tryd.prog 45 #[.string s] w fun e w' => e = .returned (.tuple #[.int .i64 0, (.iface 67 (.int .i64 2))]) ∧ (w' = w ∨ ∃ t, w' = Lib.bytesWorld w 5 t) := Any.internal_strconv_Atoi_fail Tryd.lays244 s hl h w
def Tryd.laysM316_ren : Go.Shelf.Ren := ⟨fun | 316 => 55 | n => n, fun | 9 => 9 | 3 => 3 | 4 => 4 | 37 => 66 | 0 => 0 | 127 => 89 | 5 => 5 | n => n, fun | n => n⟩
theorem Tryd.laysM316 : Go.Proofs.LaysM.n316 Tryd.prog Tryd.laysM316_ren := {
 mixed := by kernel_rfl
 f316 := Tryd.func55.trans (congrArg some (by kernel_rfl))
 t0 := Tryd.underlying0
 a0 := Tryd.isAgg0
 z0 := Tryd.sizeOf0
 v0 := Tryd.zeroValue0
 t3 := Tryd.underlying3
 a3 := Tryd.isAgg3
 z3 := Tryd.sizeOf3
 v3 := Tryd.zeroValue3
 t4 := Tryd.underlying4
 a4 := Tryd.isAgg4
 z4 := Tryd.sizeOf4
 v4 := Tryd.zeroValue4
 t9 := Tryd.underlying9
 a9 := Tryd.isAgg9
 z9 := Tryd.sizeOf9
 v9 := Tryd.zeroValue9
 t37 := Tryd.underlying66
 a37 := Tryd.isAgg66
 z37 := Tryd.sizeOf66
 v37 := Tryd.zeroValue66
 t127 := Tryd.underlying89
 a127 := Tryd.isAgg89
 z127 := Tryd.sizeOf89
 v127 := Tryd.zeroValue89
 t5 := Tryd.underlying5
 a5 := Tryd.isAgg5
 z5 := Tryd.sizeOf5
 v5 := Tryd.zeroValue5
 i0 := by kernel_rfl
 i3 := by kernel_rfl
 i4 := by kernel_rfl
 i5 := by kernel_rfl
 i9 := by kernel_rfl
 i37 := by kernel_rfl
 i127 := by kernel_rfl }
open Go.RowKit in
theorem Tryd.stringslite_Clone (s : ByteArray) (w : World) (hlim : s.size ≤ 281474976710656) :
    Calls Tryd.prog 55 #[.string s] w fun e w' => e = .returned (.string s) ∧ Below w.heap.size w w' := Any.stringslite_Clone Tryd.laysM316 s w hlim
def Tryd.laysM279_ren : Go.Shelf.Ren := ⟨fun | 279 => 49 | 316 => 55 | n => n, fun | 9 => 9 | 168 => 70 | 75 => 53 | 210 => 80 | 3 => 3 | 4 => 4 | 37 => 66 | 0 => 0 | 127 => 89 | 80 => 101 | 5 => 5 | n => n, fun | 15 => 0 | n => n⟩
theorem Tryd.laysM279 : Go.Proofs.LaysM.n279 Tryd.prog Tryd.laysM279_ren := {
 mixed := by kernel_rfl
 f279 := Tryd.func49.trans (congrArg some (by kernel_rfl))
 f316 := Tryd.func55.trans (congrArg some (by kernel_rfl))
 t0 := Tryd.underlying0
 a0 := Tryd.isAgg0
 z0 := Tryd.sizeOf0
 v0 := Tryd.zeroValue0
 t3 := Tryd.underlying3
 a3 := Tryd.isAgg3
 z3 := Tryd.sizeOf3
 v3 := Tryd.zeroValue3
 t4 := Tryd.underlying4
 a4 := Tryd.isAgg4
 z4 := Tryd.sizeOf4
 v4 := Tryd.zeroValue4
 t9 := Tryd.underlying9
 a9 := Tryd.isAgg9
 z9 := Tryd.sizeOf9
 v9 := Tryd.zeroValue9
 t37 := Tryd.underlying66
 a37 := Tryd.isAgg66
 z37 := Tryd.sizeOf66
 v37 := Tryd.zeroValue66
 t75 := Tryd.underlying53
 a75 := Tryd.isAgg53
 z75 := Tryd.sizeOf53
 v75 := Tryd.zeroValue53
 t127 := Tryd.underlying89
 a127 := Tryd.isAgg89
 z127 := Tryd.sizeOf89
 v127 := Tryd.zeroValue89
 t168 := Tryd.underlying70
 a168 := Tryd.isAgg70
 z168 := Tryd.sizeOf70
 v168 := Tryd.zeroValue70
 t210 := Tryd.underlying80
 a210 := Tryd.isAgg80
 z210 := Tryd.sizeOf80
 v210 := Tryd.zeroValue80
 g15 := by kernel_rfl
 t5 := Tryd.underlying5
 a5 := Tryd.isAgg5
 z5 := Tryd.sizeOf5
 v5 := Tryd.zeroValue5
 t80 := Tryd.underlying101
 a80 := Tryd.isAgg101
 z80 := Tryd.sizeOf101
 v80 := Tryd.zeroValue101
 i0 := by kernel_rfl
 i3 := by kernel_rfl
 i4 := by kernel_rfl
 i5 := by kernel_rfl
 i9 := by kernel_rfl
 i37 := by kernel_rfl
 i75 := by kernel_rfl
 i80 := by kernel_rfl
 i127 := by kernel_rfl
 i168 := by kernel_rfl
 i210 := by kernel_rfl
 m15 := by kernel_rfl }
open Go.RowKit in
theorem Tryd.strconv_syntaxError (fn s : ByteArray) (ev : Value) (w : World) (hlim : s.size ≤ 281474976710656) (hv : w.cell? ⟨0, 0, none⟩ = some ev) (hev : ev = .nilIface ∨ ∃ te pe, ev = .iface te pe) :
    Calls Tryd.prog 49 #[.string fn, .string s] w fun e w' => ∃ N, e = .returned (.pointer (some ⟨N, 0, none⟩)) ∧ w.heap.size ≤ N ∧ w'.heap[N]? = some (.cells #[.string fn, .string s, ev] 80 (0, 0)) ∧ Below w.heap.size w w' := Any.strconv_syntaxError Tryd.laysM279 fn s ev w hlim hv hev
def Tryd.laysC245_ren : Go.Shelf.Ren := ⟨fun | 245 => 46 | 279 => 49 | 280 => 50 | 281 => 51 | 282 => 52 | 316 => 55 | 171 => 38 | 205 => 56 | 243 => 47 | 246 => 53 | 283 => 57 | 284 => 58 | 285 => 59 | 286 => 60 | 129 => 64 | 317 => 63 | 318 => 65 | 319 => 66 | 320 => 67 | 337 => 68 | 338 => 69 | n => n, fun | 9 => 9 | 3 => 3 | 75 => 53 | 167 => 67 | 4 => 4 | 168 => 70 | 210 => 80 | 37 => 66 | 0 => 0 | 127 => 89 | 145 => 92 | 143 => 90 | 2 => 2 | 171 => 82 | 53 => 74 | 5 => 5 | 173 => 85 | 212 => 94 | 51 => 95 | 20 => 20 | 213 => 96 | 46 => 77 | 232 => 99 | 233 => 100 | 80 => 101 | n => n, fun | 15 => 0 | 16 => 1 | 17 => 2 | 18 => 3 | 19 => 4 | n => n⟩
theorem Tryd.laysC245 : Go.Proofs.LaysC.n245 Tryd.prog Tryd.laysC245_ren := {
 mixed := by kernel_rfl
 f129 := Tryd.func64.trans (congrArg some (by kernel_rfl))
 f171 := Tryd.func38.trans (congrArg some (by kernel_rfl))
 f205 := Tryd.func56.trans (congrArg some (by kernel_rfl))
 f243 := Tryd.func47.trans (congrArg some (by kernel_rfl))
 f245 := Tryd.func46.trans (congrArg some (by kernel_rfl))
 f246 := Tryd.func53.trans (congrArg some (by kernel_rfl))
 f279 := Tryd.func49.trans (congrArg some (by kernel_rfl))
 f280 := Tryd.func50.trans (congrArg some (by kernel_rfl))
 f281 := Tryd.func51.trans (congrArg some (by kernel_rfl))
 f282 := Tryd.func52.trans (congrArg some (by kernel_rfl))
 f283 := Tryd.func57.trans (congrArg some (by kernel_rfl))
 f284 := Tryd.func58.trans (congrArg some (by kernel_rfl))
 f285 := Tryd.func59.trans (congrArg some (by kernel_rfl))
 f286 := Tryd.func60.trans (congrArg some (by kernel_rfl))
 f316 := Tryd.func55.trans (congrArg some (by kernel_rfl))
 f317 := Tryd.func63.trans (congrArg some (by kernel_rfl))
 f318 := Tryd.func65.trans (congrArg some (by kernel_rfl))
 f319 := Tryd.func66.trans (congrArg some (by kernel_rfl))
 f320 := Tryd.func67.trans (congrArg some (by kernel_rfl))
 f337 := Tryd.func68.trans (congrArg some (by kernel_rfl))
 f338 := Tryd.func69.trans (congrArg some (by kernel_rfl))
 t0 := Tryd.underlying0
 a0 := Tryd.isAgg0
 z0 := Tryd.sizeOf0
 v0 := Tryd.zeroValue0
 t2 := Tryd.underlying2
 a2 := Tryd.isAgg2
 z2 := Tryd.sizeOf2
 v2 := Tryd.zeroValue2
 t3 := Tryd.underlying3
 a3 := Tryd.isAgg3
 z3 := Tryd.sizeOf3
 v3 := Tryd.zeroValue3
 t4 := Tryd.underlying4
 a4 := Tryd.isAgg4
 z4 := Tryd.sizeOf4
 v4 := Tryd.zeroValue4
 t5 := Tryd.underlying5
 a5 := Tryd.isAgg5
 z5 := Tryd.sizeOf5
 v5 := Tryd.zeroValue5
 t9 := Tryd.underlying9
 a9 := Tryd.isAgg9
 z9 := Tryd.sizeOf9
 v9 := Tryd.zeroValue9
 t20 := Tryd.underlying20
 a20 := Tryd.isAgg20
 z20 := Tryd.sizeOf20
 v20 := Tryd.zeroValue20
 t37 := Tryd.underlying66
 a37 := Tryd.isAgg66
 z37 := Tryd.sizeOf66
 v37 := Tryd.zeroValue66
 t46 := Tryd.underlying77
 a46 := Tryd.isAgg77
 z46 := Tryd.sizeOf77
 v46 := Tryd.zeroValue77
 t51 := Tryd.underlying95
 a51 := Tryd.isAgg95
 z51 := Tryd.sizeOf95
 v51 := Tryd.zeroValue95
 t53 := Tryd.underlying74
 a53 := Tryd.isAgg74
 z53 := Tryd.sizeOf74
 v53 := Tryd.zeroValue74
 t75 := Tryd.underlying53
 a75 := Tryd.isAgg53
 z75 := Tryd.sizeOf53
 v75 := Tryd.zeroValue53
 t127 := Tryd.underlying89
 a127 := Tryd.isAgg89
 z127 := Tryd.sizeOf89
 v127 := Tryd.zeroValue89
 t143 := Tryd.underlying90
 a143 := Tryd.isAgg90
 z143 := Tryd.sizeOf90
 v143 := Tryd.zeroValue90
 t145 := Tryd.underlying92
 a145 := Tryd.isAgg92
 z145 := Tryd.sizeOf92
 v145 := Tryd.zeroValue92
 t167 := Tryd.underlying67
 a167 := Tryd.isAgg67
 z167 := Tryd.sizeOf67
 v167 := Tryd.zeroValue67
 t168 := Tryd.underlying70
 a168 := Tryd.isAgg70
 z168 := Tryd.sizeOf70
 v168 := Tryd.zeroValue70
 t171 := Tryd.underlying82
 a171 := Tryd.isAgg82
 z171 := Tryd.sizeOf82
 v171 := Tryd.zeroValue82
 t173 := Tryd.underlying85
 a173 := Tryd.isAgg85
 z173 := Tryd.sizeOf85
 v173 := Tryd.zeroValue85
 t210 := Tryd.underlying80
 a210 := Tryd.isAgg80
 z210 := Tryd.sizeOf80
 v210 := Tryd.zeroValue80
 t212 := Tryd.underlying94
 a212 := Tryd.isAgg94
 z212 := Tryd.sizeOf94
 v212 := Tryd.zeroValue94
 t213 := Tryd.underlying96
 a213 := Tryd.isAgg96
 z213 := Tryd.sizeOf96
 t232 := Tryd.underlying99
 a232 := Tryd.isAgg99
 z232 := Tryd.sizeOf99
 v232 := Tryd.zeroValue99
 t233 := Tryd.underlying100
 a233 := Tryd.isAgg100
 z233 := Tryd.sizeOf100
 v233 := Tryd.zeroValue100
 g15 := by kernel_rfl
 g16 := by kernel_rfl
 g17 := by kernel_rfl
 g18 := by kernel_rfl
 g19 := by kernel_rfl
 t80 := Tryd.underlying101
 a80 := Tryd.isAgg101
 z80 := Tryd.sizeOf101
 v80 := Tryd.zeroValue101
 i0 := by kernel_rfl
 i2 := by kernel_rfl
 i3 := by kernel_rfl
 i4 := by kernel_rfl
 i5 := by kernel_rfl
 i9 := by kernel_rfl
 i20 := by kernel_rfl
 i37 := by kernel_rfl
 i46 := by kernel_rfl
 i51 := by kernel_rfl
 i53 := by kernel_rfl
 i75 := by kernel_rfl
 i80 := by kernel_rfl
 i127 := by kernel_rfl
 i143 := by kernel_rfl
 i145 := by kernel_rfl
 i167 := by kernel_rfl
 i168 := by kernel_rfl
 i171 := by kernel_rfl
 i173 := by kernel_rfl
 i210 := by kernel_rfl
 i212 := by kernel_rfl
 i232 := by kernel_rfl
 i233 := by kernel_rfl
 m15 := by kernel_rfl
 m16 := by kernel_rfl
 m17 := by kernel_rfl
 m18 := by kernel_rfl
 m19 := by kernel_rfl
 c0 := by kernel_rfl
 c2 := by kernel_rfl
 c3 := by kernel_rfl
 c4 := by kernel_rfl
 c5 := by kernel_rfl
 c9 := by kernel_rfl
 c20 := by kernel_rfl
 c37 := by kernel_rfl
 c46 := by kernel_rfl
 c51 := by kernel_rfl
 c53 := by kernel_rfl
 c75 := by kernel_rfl
 c80 := by kernel_rfl
 c127 := by kernel_rfl
 c143 := by kernel_rfl
 c145 := by kernel_rfl
 c167 := by kernel_rfl
 c168 := by kernel_rfl
 c171 := by kernel_rfl
 c173 := by kernel_rfl
 c210 := by kernel_rfl
 c212 := by kernel_rfl
 c213 := by kernel_rfl
 c232 := by kernel_rfl
 c233 := by kernel_rfl }
open Go.RowKit in
theorem Tryd.strconv_toError_syntax (fn s : ByteArray) (base bits : Int) (ev : Value) (w : World) (hlim : s.size ≤ 281474976710656) (hv : w.cell? ⟨0, 0, none⟩ = some ev) (hev : ev = .nilIface ∨ ∃ te pe, ev = .iface te pe) :
    Calls Tryd.prog 46 #[.string fn, .string s, .int .i64 base, .int .i64 bits, .iface 67 (.int .i64 2)] w fun e w' => ∃ N, e = .returned (.iface 70 (.pointer (some ⟨N, 0, none⟩))) ∧ w.heap.size ≤ N ∧ w'.heap[N]? = some (.cells #[.string fn, .string s, ev] 80 (0, 0)) ∧ Below w.heap.size w w' := Any.strconv_toError_syntax Tryd.laysC245 fn s base bits ev w hlim hv hev
def Tryd.lays321_ren : Go.Shelf.Ren := ⟨fun | 321 => 61 | n => n, fun | 5 => 5 | n => n, fun | n => n⟩
theorem Tryd.lays321 : Go.Proofs.Lays.n321 Tryd.prog Tryd.lays321_ren := {
 mixed := by kernel_rfl
 f321 := Tryd.func61.trans (congrArg some (by kernel_rfl))
 t5 := Tryd.underlying5
 a5 := Tryd.isAgg5
 z5 := Tryd.sizeOf5
 v5 := Tryd.zeroValue5 }
open Go.RowKit in
theorem Tryd.internal_strconv_lower (c : Int) (w : World) :
    Calls Tryd.prog 61 #[.int .u8 c] w fun e w' => e = .returned (.int .u8 (bits .or .u8 c 32)) ∧ w' = w := Any.internal_strconv_lower Tryd.lays321 c w
def Tryd.lays287_ren : Go.Shelf.Ren := ⟨fun | 287 => 54 | 321 => 61 | 322 => 62 | n => n, fun | 9 => 9 | 3 => 3 | 53 => 74 | 75 => 53 | 4 => 4 | 167 => 67 | 5 => 5 | 46 => 77 | 37 => 66 | 0 => 0 | 21 => 21 | 80 => 101 | n => n, fun | n => n⟩
theorem Tryd.lays287 : Go.Proofs.Lays.n287 Tryd.prog Tryd.lays287_ren := {
 mixed := by kernel_rfl
 f287 := Tryd.func54.trans (congrArg some (by kernel_rfl))
 f321 := Tryd.func61.trans (congrArg some (by kernel_rfl))
 f322 := Tryd.func62.trans (congrArg some (by kernel_rfl))
 t0 := Tryd.underlying0
 a0 := Tryd.isAgg0
 z0 := Tryd.sizeOf0
 v0 := Tryd.zeroValue0
 t3 := Tryd.underlying3
 a3 := Tryd.isAgg3
 z3 := Tryd.sizeOf3
 v3 := Tryd.zeroValue3
 t4 := Tryd.underlying4
 a4 := Tryd.isAgg4
 z4 := Tryd.sizeOf4
 v4 := Tryd.zeroValue4
 t5 := Tryd.underlying5
 a5 := Tryd.isAgg5
 z5 := Tryd.sizeOf5
 v5 := Tryd.zeroValue5
 t9 := Tryd.underlying9
 a9 := Tryd.isAgg9
 z9 := Tryd.sizeOf9
 v9 := Tryd.zeroValue9
 t21 := Tryd.underlying21
 a21 := Tryd.isAgg21
 z21 := Tryd.sizeOf21
 v21 := Tryd.zeroValue21
 t37 := Tryd.underlying66
 a37 := Tryd.isAgg66
 z37 := Tryd.sizeOf66
 v37 := Tryd.zeroValue66
 t46 := Tryd.underlying77
 a46 := Tryd.isAgg77
 z46 := Tryd.sizeOf77
 v46 := Tryd.zeroValue77
 t53 := Tryd.underlying74
 a53 := Tryd.isAgg74
 z53 := Tryd.sizeOf74
 v53 := Tryd.zeroValue74
 t75 := Tryd.underlying53
 a75 := Tryd.isAgg53
 z75 := Tryd.sizeOf53
 v75 := Tryd.zeroValue53
 t167 := Tryd.underlying67
 a167 := Tryd.isAgg67
 z167 := Tryd.sizeOf67
 v167 := Tryd.zeroValue67 }
open Go.RowKit in
theorem Tryd.internal_strconv_ParseUint_10 (t : ByteArray) (hne : t.size ≠ 0) (hmax : t.size ≤ 9223372036854775806) (w : World) :
    Calls Tryd.prog 54 #[.string t, .int .i64 10, .int .i64 0] w fun e w' => e = .returned (Lib.uintTuple 67 (Lib.parseUint10 0 t.data.toList)) ∧ w' = Lib.bytesWorld w 5 t := Any.internal_strconv_ParseUint_10 Tryd.lays287 t hne hmax w
open Go.RowKit in
theorem Tryd.internal_strconv_ParseUint_10_empty (w : World) :
    Calls Tryd.prog 54 #[.string ⟨#[]⟩, .int .i64 10, .int .i64 0] w fun e w' => e = .returned (Lib.uintTuple 67 .syntax) ∧ w' = w := Any.internal_strconv_ParseUint_10_empty Tryd.lays287 w
open Go.RowKit in
theorem Tryd.internal_strconv_ParseUint_10_any (t : ByteArray) (hmax : t.size ≤ 9223372036854775806) (w : World) :
    Calls Tryd.prog 54 #[.string t, .int .i64 10, .int .i64 0] w fun e w' => e = .returned (Lib.uintTuple 67 (Lib.parseMag t.data.toList)) ∧ (w' = w ∨ w' = Lib.bytesWorld w 5 t) := Any.internal_strconv_ParseUint_10_any Tryd.lays287 t hmax w
def Tryd.laysC247_ren : Go.Shelf.Ren := ⟨fun | 247 => 48 | 287 => 54 | 321 => 61 | 322 => 62 | n => n, fun | 9 => 9 | 3 => 3 | 2 => 2 | 75 => 53 | 4 => 4 | 167 => 67 | 5 => 5 | 53 => 74 | 175 => 75 | 46 => 77 | 37 => 66 | 0 => 0 | 21 => 21 | 80 => 101 | n => n, fun | n => n⟩
theorem Tryd.laysC247 : Go.Proofs.LaysC.n247 Tryd.prog Tryd.laysC247_ren := {
 mixed := by kernel_rfl
 f247 := Tryd.func48.trans (congrArg some (by kernel_rfl))
 f287 := Tryd.func54.trans (congrArg some (by kernel_rfl))
 f321 := Tryd.func61.trans (congrArg some (by kernel_rfl))
 f322 := Tryd.func62.trans (congrArg some (by kernel_rfl))
 t0 := Tryd.underlying0
 a0 := Tryd.isAgg0
 z0 := Tryd.sizeOf0
 v0 := Tryd.zeroValue0
 t2 := Tryd.underlying2
 a2 := Tryd.isAgg2
 z2 := Tryd.sizeOf2
 v2 := Tryd.zeroValue2
 t3 := Tryd.underlying3
 a3 := Tryd.isAgg3
 z3 := Tryd.sizeOf3
 v3 := Tryd.zeroValue3
 t4 := Tryd.underlying4
 a4 := Tryd.isAgg4
 z4 := Tryd.sizeOf4
 v4 := Tryd.zeroValue4
 t5 := Tryd.underlying5
 a5 := Tryd.isAgg5
 z5 := Tryd.sizeOf5
 v5 := Tryd.zeroValue5
 t9 := Tryd.underlying9
 a9 := Tryd.isAgg9
 z9 := Tryd.sizeOf9
 v9 := Tryd.zeroValue9
 t21 := Tryd.underlying21
 a21 := Tryd.isAgg21
 z21 := Tryd.sizeOf21
 v21 := Tryd.zeroValue21
 t37 := Tryd.underlying66
 a37 := Tryd.isAgg66
 z37 := Tryd.sizeOf66
 v37 := Tryd.zeroValue66
 t46 := Tryd.underlying77
 a46 := Tryd.isAgg77
 z46 := Tryd.sizeOf77
 v46 := Tryd.zeroValue77
 t53 := Tryd.underlying74
 a53 := Tryd.isAgg74
 z53 := Tryd.sizeOf74
 v53 := Tryd.zeroValue74
 t75 := Tryd.underlying53
 a75 := Tryd.isAgg53
 z75 := Tryd.sizeOf53
 v75 := Tryd.zeroValue53
 t167 := Tryd.underlying67
 a167 := Tryd.isAgg67
 z167 := Tryd.sizeOf67
 v167 := Tryd.zeroValue67
 t175 := Tryd.underlying75
 a175 := Tryd.isAgg75
 z175 := Tryd.sizeOf75
 v175 := Tryd.zeroValue75
 t80 := Tryd.underlying101
 a80 := Tryd.isAgg101
 z80 := Tryd.sizeOf101
 v80 := Tryd.zeroValue101
 i0 := by kernel_rfl
 i2 := by kernel_rfl
 i3 := by kernel_rfl
 i4 := by kernel_rfl
 i5 := by kernel_rfl
 i9 := by kernel_rfl
 i21 := by kernel_rfl
 i37 := by kernel_rfl
 i46 := by kernel_rfl
 i53 := by kernel_rfl
 i75 := by kernel_rfl
 i80 := by kernel_rfl
 i167 := by kernel_rfl
 i175 := by kernel_rfl
 c0 := by kernel_rfl
 c2 := by kernel_rfl
 c3 := by kernel_rfl
 c4 := by kernel_rfl
 c5 := by kernel_rfl
 c9 := by kernel_rfl
 c21 := by kernel_rfl
 c37 := by kernel_rfl
 c46 := by kernel_rfl
 c53 := by kernel_rfl
 c75 := by kernel_rfl
 c80 := by kernel_rfl
 c167 := by kernel_rfl
 c175 := by kernel_rfl }
open Go.RowKit in
theorem Tryd.internal_strconv_ParseInt_10 (s : ByteArray) (hne : s.size ≠ 0) (hmax : s.size ≤ 9223372036854775806) (w : World) :
    Calls Tryd.prog 48 #[.string s, .int .i64 10, .int .i64 0] w fun e w' => e = .returned (Lib.intTuple 67 (Lib.atoiSat s.data.toList) (Lib.atoiAll s.data.toList)) ∧ (w' = w ∨ ∃ t, w' = Lib.bytesWorld w 5 t) := Any.internal_strconv_ParseInt_10 Tryd.laysC247 s hne hmax w
def Tryd.laysC244_ren : Go.Shelf.Ren := ⟨fun | 244 => 45 | 247 => 48 | 287 => 54 | 321 => 61 | 322 => 62 | n => n, fun | 9 => 9 | 3 => 3 | 75 => 53 | 4 => 4 | 5 => 5 | 167 => 67 | 37 => 66 | 0 => 0 | 85 => 68 | 2 => 2 | 53 => 74 | 175 => 75 | 46 => 77 | 21 => 21 | 80 => 101 | n => n, fun | n => n⟩
theorem Tryd.laysC244 : Go.Proofs.LaysC.n244 Tryd.prog Tryd.laysC244_ren := {
 mixed := by kernel_rfl
 f244 := Tryd.func45.trans (congrArg some (by kernel_rfl))
 f247 := Tryd.func48.trans (congrArg some (by kernel_rfl))
 f287 := Tryd.func54.trans (congrArg some (by kernel_rfl))
 f321 := Tryd.func61.trans (congrArg some (by kernel_rfl))
 f322 := Tryd.func62.trans (congrArg some (by kernel_rfl))
 t0 := Tryd.underlying0
 a0 := Tryd.isAgg0
 z0 := Tryd.sizeOf0
 v0 := Tryd.zeroValue0
 t2 := Tryd.underlying2
 a2 := Tryd.isAgg2
 z2 := Tryd.sizeOf2
 v2 := Tryd.zeroValue2
 t3 := Tryd.underlying3
 a3 := Tryd.isAgg3
 z3 := Tryd.sizeOf3
 v3 := Tryd.zeroValue3
 t4 := Tryd.underlying4
 a4 := Tryd.isAgg4
 z4 := Tryd.sizeOf4
 v4 := Tryd.zeroValue4
 t5 := Tryd.underlying5
 a5 := Tryd.isAgg5
 z5 := Tryd.sizeOf5
 v5 := Tryd.zeroValue5
 t9 := Tryd.underlying9
 a9 := Tryd.isAgg9
 z9 := Tryd.sizeOf9
 v9 := Tryd.zeroValue9
 t21 := Tryd.underlying21
 a21 := Tryd.isAgg21
 z21 := Tryd.sizeOf21
 v21 := Tryd.zeroValue21
 t37 := Tryd.underlying66
 a37 := Tryd.isAgg66
 z37 := Tryd.sizeOf66
 v37 := Tryd.zeroValue66
 t46 := Tryd.underlying77
 a46 := Tryd.isAgg77
 z46 := Tryd.sizeOf77
 v46 := Tryd.zeroValue77
 t53 := Tryd.underlying74
 a53 := Tryd.isAgg74
 z53 := Tryd.sizeOf74
 v53 := Tryd.zeroValue74
 t75 := Tryd.underlying53
 a75 := Tryd.isAgg53
 z75 := Tryd.sizeOf53
 v75 := Tryd.zeroValue53
 t85 := Tryd.underlying68
 a85 := Tryd.isAgg68
 z85 := Tryd.sizeOf68
 v85 := Tryd.zeroValue68
 t167 := Tryd.underlying67
 a167 := Tryd.isAgg67
 z167 := Tryd.sizeOf67
 v167 := Tryd.zeroValue67
 t175 := Tryd.underlying75
 a175 := Tryd.isAgg75
 z175 := Tryd.sizeOf75
 v175 := Tryd.zeroValue75
 t80 := Tryd.underlying101
 a80 := Tryd.isAgg101
 z80 := Tryd.sizeOf101
 v80 := Tryd.zeroValue101
 i0 := by kernel_rfl
 i2 := by kernel_rfl
 i3 := by kernel_rfl
 i4 := by kernel_rfl
 i5 := by kernel_rfl
 i9 := by kernel_rfl
 i21 := by kernel_rfl
 i37 := by kernel_rfl
 i46 := by kernel_rfl
 i53 := by kernel_rfl
 i75 := by kernel_rfl
 i80 := by kernel_rfl
 i85 := by kernel_rfl
 i167 := by kernel_rfl
 i175 := by kernel_rfl
 c0 := by kernel_rfl
 c2 := by kernel_rfl
 c3 := by kernel_rfl
 c4 := by kernel_rfl
 c5 := by kernel_rfl
 c9 := by kernel_rfl
 c21 := by kernel_rfl
 c37 := by kernel_rfl
 c46 := by kernel_rfl
 c53 := by kernel_rfl
 c75 := by kernel_rfl
 c80 := by kernel_rfl
 c85 := by kernel_rfl
 c167 := by kernel_rfl
 c175 := by kernel_rfl }
open Go.RowKit in
theorem Tryd.internal_strconv_Atoi_long (s : ByteArray) (h19 : 19 ≤ s.size) (hmax : s.size ≤ 9223372036854775806) (w : World) :
    Calls Tryd.prog 45 #[.string s] w fun e w' => e = .returned (Lib.intTuple 67 (Lib.atoiSat s.data.toList) (Lib.atoiAll s.data.toList)) ∧ (w' = w ∨ ∃ t, w' = Lib.bytesWorld w 5 t) := Any.internal_strconv_Atoi_long Tryd.laysC244 s h19 hmax w
open Go.RowKit in
theorem Tryd.internal_strconv_Atoi_all (s : ByteArray) (hmax : s.size ≤ 9223372036854775806) (w : World) :
    Calls Tryd.prog 45 #[.string s] w fun e w' => e = .returned (Lib.intTuple 67 (Lib.atoiSat s.data.toList) (Lib.atoiAll s.data.toList)) ∧ (w' = w ∨ ∃ t, w' = Lib.bytesWorld w 5 t) := Any.internal_strconv_Atoi_all Tryd.laysC244 s hmax w
def Tryd.laysM280_ren : Go.Shelf.Ren := ⟨fun | 280 => 50 | 316 => 55 | n => n, fun | 9 => 9 | 168 => 70 | 75 => 53 | 210 => 80 | 3 => 3 | 4 => 4 | 37 => 66 | 0 => 0 | 127 => 89 | 80 => 101 | 5 => 5 | n => n, fun | 16 => 1 | n => n⟩
theorem Tryd.laysM280 : Go.Proofs.LaysM.n280 Tryd.prog Tryd.laysM280_ren := {
 mixed := by kernel_rfl
 f280 := Tryd.func50.trans (congrArg some (by kernel_rfl))
 f316 := Tryd.func55.trans (congrArg some (by kernel_rfl))
 t0 := Tryd.underlying0
 a0 := Tryd.isAgg0
 z0 := Tryd.sizeOf0
 v0 := Tryd.zeroValue0
 t3 := Tryd.underlying3
 a3 := Tryd.isAgg3
 z3 := Tryd.sizeOf3
 v3 := Tryd.zeroValue3
 t4 := Tryd.underlying4
 a4 := Tryd.isAgg4
 z4 := Tryd.sizeOf4
 v4 := Tryd.zeroValue4
 t9 := Tryd.underlying9
 a9 := Tryd.isAgg9
 z9 := Tryd.sizeOf9
 v9 := Tryd.zeroValue9
 t37 := Tryd.underlying66
 a37 := Tryd.isAgg66
 z37 := Tryd.sizeOf66
 v37 := Tryd.zeroValue66
 t75 := Tryd.underlying53
 a75 := Tryd.isAgg53
 z75 := Tryd.sizeOf53
 v75 := Tryd.zeroValue53
 t127 := Tryd.underlying89
 a127 := Tryd.isAgg89
 z127 := Tryd.sizeOf89
 v127 := Tryd.zeroValue89
 t168 := Tryd.underlying70
 a168 := Tryd.isAgg70
 z168 := Tryd.sizeOf70
 v168 := Tryd.zeroValue70
 t210 := Tryd.underlying80
 a210 := Tryd.isAgg80
 z210 := Tryd.sizeOf80
 v210 := Tryd.zeroValue80
 g16 := by kernel_rfl
 t5 := Tryd.underlying5
 a5 := Tryd.isAgg5
 z5 := Tryd.sizeOf5
 v5 := Tryd.zeroValue5
 t80 := Tryd.underlying101
 a80 := Tryd.isAgg101
 z80 := Tryd.sizeOf101
 v80 := Tryd.zeroValue101
 i0 := by kernel_rfl
 i3 := by kernel_rfl
 i4 := by kernel_rfl
 i5 := by kernel_rfl
 i9 := by kernel_rfl
 i37 := by kernel_rfl
 i75 := by kernel_rfl
 i80 := by kernel_rfl
 i127 := by kernel_rfl
 i168 := by kernel_rfl
 i210 := by kernel_rfl
 m16 := by kernel_rfl }
open Go.RowKit in
theorem Tryd.strconv_rangeError (fn s : ByteArray) (ev : Value) (w : World) (hlim : s.size ≤ 281474976710656) (hv : w.cell? ⟨1, 0, none⟩ = some ev) (hev : ev = .nilIface ∨ ∃ te pe, ev = .iface te pe) :
    Calls Tryd.prog 50 #[.string fn, .string s] w fun e w' => ∃ N, e = .returned (.pointer (some ⟨N, 0, none⟩)) ∧ w.heap.size ≤ N ∧ w'.heap[N]? = some (.cells #[.string fn, .string s, ev] 80 (0, 0)) ∧ Below w.heap.size w w' := Any.strconv_rangeError Tryd.laysM280 fn s ev w hlim hv hev
open Go.RowKit in
theorem Tryd.strconv_toError_range (fn s : ByteArray) (base bits : Int) (ev : Value) (w : World) (hlim : s.size ≤ 281474976710656) (hv : w.cell? ⟨1, 0, none⟩ = some ev) (hev : ev = .nilIface ∨ ∃ te pe, ev = .iface te pe) :
    Calls Tryd.prog 46 #[.string fn, .string s, .int .i64 base, .int .i64 bits, .iface 67 (.int .i64 1)] w fun e w' => ∃ N, e = .returned (.iface 70 (.pointer (some ⟨N, 0, none⟩))) ∧ w.heap.size ≤ N ∧ w'.heap[N]? = some (.cells #[.string fn, .string s, ev] 80 (0, 0)) ∧ Below w.heap.size w w' := Any.strconv_toError_range Tryd.laysC245 fn s base bits ev w hlim hv hev
def Tryd.laysC172_ren : Go.Shelf.Ren := ⟨fun | 172 => 34 | 244 => 45 | 245 => 46 | 247 => 48 | 279 => 49 | 280 => 50 | 281 => 51 | 282 => 52 | 287 => 54 | 316 => 55 | 171 => 38 | 205 => 56 | 321 => 61 | 322 => 62 | 243 => 47 | 246 => 53 | 283 => 57 | 284 => 58 | 285 => 59 | 286 => 60 | 129 => 64 | 317 => 63 | 318 => 65 | 319 => 66 | 320 => 67 | 337 => 68 | 338 => 69 | n => n, fun | 9 => 9 | 3 => 3 | 75 => 53 | 76 => 54 | 4 => 4 | 5 => 5 | 167 => 67 | 37 => 66 | 0 => 0 | 85 => 68 | 2 => 2 | 168 => 70 | 53 => 74 | 175 => 75 | 46 => 77 | 210 => 80 | 127 => 89 | 145 => 92 | 143 => 90 | 21 => 21 | 171 => 82 | 173 => 85 | 212 => 94 | 51 => 95 | 20 => 20 | 213 => 96 | 232 => 99 | 233 => 100 | 80 => 101 | n => n, fun | 15 => 0 | 16 => 1 | 17 => 2 | 18 => 3 | 19 => 4 | n => n⟩
theorem Tryd.laysC172 : Go.Proofs.LaysC.n172 Tryd.prog Tryd.laysC172_ren := {
 mixed := by kernel_rfl
 f129 := Tryd.func64.trans (congrArg some (by kernel_rfl))
 f171 := Tryd.func38.trans (congrArg some (by kernel_rfl))
 f172 := Tryd.func34.trans (congrArg some (by kernel_rfl))
 f205 := Tryd.func56.trans (congrArg some (by kernel_rfl))
 f243 := Tryd.func47.trans (congrArg some (by kernel_rfl))
 f244 := Tryd.func45.trans (congrArg some (by kernel_rfl))
 f245 := Tryd.func46.trans (congrArg some (by kernel_rfl))
 f246 := Tryd.func53.trans (congrArg some (by kernel_rfl))
 f247 := Tryd.func48.trans (congrArg some (by kernel_rfl))
 f279 := Tryd.func49.trans (congrArg some (by kernel_rfl))
 f280 := Tryd.func50.trans (congrArg some (by kernel_rfl))
 f281 := Tryd.func51.trans (congrArg some (by kernel_rfl))
 f282 := Tryd.func52.trans (congrArg some (by kernel_rfl))
 f283 := Tryd.func57.trans (congrArg some (by kernel_rfl))
 f284 := Tryd.func58.trans (congrArg some (by kernel_rfl))
 f285 := Tryd.func59.trans (congrArg some (by kernel_rfl))
 f286 := Tryd.func60.trans (congrArg some (by kernel_rfl))
 f287 := Tryd.func54.trans (congrArg some (by kernel_rfl))
 f316 := Tryd.func55.trans (congrArg some (by kernel_rfl))
 f317 := Tryd.func63.trans (congrArg some (by kernel_rfl))
 f318 := Tryd.func65.trans (congrArg some (by kernel_rfl))
 f319 := Tryd.func66.trans (congrArg some (by kernel_rfl))
 f320 := Tryd.func67.trans (congrArg some (by kernel_rfl))
 f321 := Tryd.func61.trans (congrArg some (by kernel_rfl))
 f322 := Tryd.func62.trans (congrArg some (by kernel_rfl))
 f337 := Tryd.func68.trans (congrArg some (by kernel_rfl))
 f338 := Tryd.func69.trans (congrArg some (by kernel_rfl))
 t0 := Tryd.underlying0
 a0 := Tryd.isAgg0
 z0 := Tryd.sizeOf0
 v0 := Tryd.zeroValue0
 t2 := Tryd.underlying2
 a2 := Tryd.isAgg2
 z2 := Tryd.sizeOf2
 v2 := Tryd.zeroValue2
 t3 := Tryd.underlying3
 a3 := Tryd.isAgg3
 z3 := Tryd.sizeOf3
 v3 := Tryd.zeroValue3
 t4 := Tryd.underlying4
 a4 := Tryd.isAgg4
 z4 := Tryd.sizeOf4
 v4 := Tryd.zeroValue4
 t5 := Tryd.underlying5
 a5 := Tryd.isAgg5
 z5 := Tryd.sizeOf5
 v5 := Tryd.zeroValue5
 t9 := Tryd.underlying9
 a9 := Tryd.isAgg9
 z9 := Tryd.sizeOf9
 v9 := Tryd.zeroValue9
 t20 := Tryd.underlying20
 a20 := Tryd.isAgg20
 z20 := Tryd.sizeOf20
 v20 := Tryd.zeroValue20
 t21 := Tryd.underlying21
 a21 := Tryd.isAgg21
 z21 := Tryd.sizeOf21
 v21 := Tryd.zeroValue21
 t37 := Tryd.underlying66
 a37 := Tryd.isAgg66
 z37 := Tryd.sizeOf66
 v37 := Tryd.zeroValue66
 t46 := Tryd.underlying77
 a46 := Tryd.isAgg77
 z46 := Tryd.sizeOf77
 v46 := Tryd.zeroValue77
 t51 := Tryd.underlying95
 a51 := Tryd.isAgg95
 z51 := Tryd.sizeOf95
 v51 := Tryd.zeroValue95
 t53 := Tryd.underlying74
 a53 := Tryd.isAgg74
 z53 := Tryd.sizeOf74
 v53 := Tryd.zeroValue74
 t75 := Tryd.underlying53
 a75 := Tryd.isAgg53
 z75 := Tryd.sizeOf53
 v75 := Tryd.zeroValue53
 t76 := Tryd.underlying54
 a76 := Tryd.isAgg54
 z76 := Tryd.sizeOf54
 v76 := Tryd.zeroValue54
 t85 := Tryd.underlying68
 a85 := Tryd.isAgg68
 z85 := Tryd.sizeOf68
 v85 := Tryd.zeroValue68
 t127 := Tryd.underlying89
 a127 := Tryd.isAgg89
 z127 := Tryd.sizeOf89
 v127 := Tryd.zeroValue89
 t143 := Tryd.underlying90
 a143 := Tryd.isAgg90
 z143 := Tryd.sizeOf90
 v143 := Tryd.zeroValue90
 t145 := Tryd.underlying92
 a145 := Tryd.isAgg92
 z145 := Tryd.sizeOf92
 v145 := Tryd.zeroValue92
 t167 := Tryd.underlying67
 a167 := Tryd.isAgg67
 z167 := Tryd.sizeOf67
 v167 := Tryd.zeroValue67
 t168 := Tryd.underlying70
 a168 := Tryd.isAgg70
 z168 := Tryd.sizeOf70
 v168 := Tryd.zeroValue70
 t171 := Tryd.underlying82
 a171 := Tryd.isAgg82
 z171 := Tryd.sizeOf82
 v171 := Tryd.zeroValue82
 t173 := Tryd.underlying85
 a173 := Tryd.isAgg85
 z173 := Tryd.sizeOf85
 v173 := Tryd.zeroValue85
 t175 := Tryd.underlying75
 a175 := Tryd.isAgg75
 z175 := Tryd.sizeOf75
 v175 := Tryd.zeroValue75
 t210 := Tryd.underlying80
 a210 := Tryd.isAgg80
 z210 := Tryd.sizeOf80
 v210 := Tryd.zeroValue80
 t212 := Tryd.underlying94
 a212 := Tryd.isAgg94
 z212 := Tryd.sizeOf94
 v212 := Tryd.zeroValue94
 t213 := Tryd.underlying96
 a213 := Tryd.isAgg96
 z213 := Tryd.sizeOf96
 t232 := Tryd.underlying99
 a232 := Tryd.isAgg99
 z232 := Tryd.sizeOf99
 v232 := Tryd.zeroValue99
 t233 := Tryd.underlying100
 a233 := Tryd.isAgg100
 z233 := Tryd.sizeOf100
 v233 := Tryd.zeroValue100
 g15 := by kernel_rfl
 g16 := by kernel_rfl
 g17 := by kernel_rfl
 g18 := by kernel_rfl
 g19 := by kernel_rfl
 t80 := Tryd.underlying101
 a80 := Tryd.isAgg101
 z80 := Tryd.sizeOf101
 v80 := Tryd.zeroValue101
 i0 := by kernel_rfl
 i2 := by kernel_rfl
 i3 := by kernel_rfl
 i4 := by kernel_rfl
 i5 := by kernel_rfl
 i9 := by kernel_rfl
 i20 := by kernel_rfl
 i21 := by kernel_rfl
 i37 := by kernel_rfl
 i46 := by kernel_rfl
 i51 := by kernel_rfl
 i53 := by kernel_rfl
 i75 := by kernel_rfl
 i76 := by kernel_rfl
 i80 := by kernel_rfl
 i85 := by kernel_rfl
 i127 := by kernel_rfl
 i143 := by kernel_rfl
 i145 := by kernel_rfl
 i167 := by kernel_rfl
 i168 := by kernel_rfl
 i171 := by kernel_rfl
 i173 := by kernel_rfl
 i175 := by kernel_rfl
 i210 := by kernel_rfl
 i212 := by kernel_rfl
 i232 := by kernel_rfl
 i233 := by kernel_rfl
 m15 := by kernel_rfl
 m16 := by kernel_rfl
 m17 := by kernel_rfl
 m18 := by kernel_rfl
 m19 := by kernel_rfl
 c0 := by kernel_rfl
 c2 := by kernel_rfl
 c3 := by kernel_rfl
 c4 := by kernel_rfl
 c5 := by kernel_rfl
 c9 := by kernel_rfl
 c20 := by kernel_rfl
 c21 := by kernel_rfl
 c37 := by kernel_rfl
 c46 := by kernel_rfl
 c51 := by kernel_rfl
 c53 := by kernel_rfl
 c75 := by kernel_rfl
 c76 := by kernel_rfl
 c80 := by kernel_rfl
 c85 := by kernel_rfl
 c127 := by kernel_rfl
 c143 := by kernel_rfl
 c145 := by kernel_rfl
 c167 := by kernel_rfl
 c168 := by kernel_rfl
 c171 := by kernel_rfl
 c173 := by kernel_rfl
 c175 := by kernel_rfl
 c210 := by kernel_rfl
 c212 := by kernel_rfl
 c213 := by kernel_rfl
 c232 := by kernel_rfl
 c233 := by kernel_rfl }
open Go.RowKit in
theorem Tryd.strconv_Atoi_ok (s : ByteArray) (hmax : s.size ≤ 9223372036854775806) (v : Int) (h : Lib.atoiAll s.data.toList = .ok v) (w : World) :
    Calls Tryd.prog 34 #[.string s] w fun e w' => e = .returned (.tuple #[.int .i64 v, .nilIface]) ∧ (w' = w ∨ ∃ t, w' = Lib.bytesWorld w 5 t) := Any.strconv_Atoi_ok Tryd.laysC172 s hmax v h w
open Go.RowKit in
theorem Tryd.strconv_Atoi_syntax (s : ByteArray) (hlim : s.size ≤ 281474976710656) (h : Lib.atoiAll s.data.toList = .«syntax») (ev : Value) (w : World) (hv : w.cell? ⟨0, 0, none⟩ = some ev) (hev : ev = .nilIface ∨ ∃ te pe, ev = .iface te pe) :
    Calls Tryd.prog 34 #[.string s] w fun e w' => ∃ N, e = .returned (.tuple #[.int .i64 (0), .iface 70 (.pointer (some ⟨N, 0, none⟩))]) ∧ w.heap.size ≤ N ∧ w'.heap[N]? = some (.cells #[.string ⟨#[65, 116, 111, 105]⟩, .string s, ev] 80 (0, 0)) ∧ Below w.heap.size w w' := Any.strconv_Atoi_syntax Tryd.laysC172 s hlim h ev w hv hev
open Go.RowKit in
theorem Tryd.strconv_Atoi_range (s : ByteArray) (hlim : s.size ≤ 281474976710656) (h : Lib.atoiAll s.data.toList = .range) (ev : Value) (w : World) (hv : w.cell? ⟨1, 0, none⟩ = some ev) (hev : ev = .nilIface ∨ ∃ te pe, ev = .iface te pe) :
    Calls Tryd.prog 34 #[.string s] w fun e w' => ∃ N, e = .returned (.tuple #[.int .i64 (Lib.atoiSat s.data.toList), .iface 70 (.pointer (some ⟨N, 0, none⟩))]) ∧ w.heap.size ≤ N ∧ w'.heap[N]? = some (.cells #[.string ⟨#[65, 116, 111, 105]⟩, .string s, ev] 80 (0, 0)) ∧ Below w.heap.size w w' := Any.strconv_Atoi_range Tryd.laysC172 s hlim h ev w hv hev
end Go.Proofs
namespace Go.Proofs.YtoncignjcgjhhaaDoor.T
def fits (i : Nat) (b : UInt8) : Prop := if i = 4 ∨ i = 7 then b = 45 else 48 ≤ b.toNat ∧ b.toNat ≤ 57
instance fitsDec (i : Nat) (b : UInt8) : Decidable (fits i b) := by unfold fits; exact inferInstance
def okT (s : ByteArray) : Prop := ∃ h : s.size = 10, ∀ i (hi : i < 10), fits i (s[i]'(by omega))
instance okTDec (s : ByteArray) : Decidable (okT s) :=
  if h : s.size = 10 then decidable_of_iff (∀ i (hi : i < 10), fits i (s[i]'(by omega))) ⟨fun a => ⟨h, a⟩, fun a => a.2⟩ else isFalse (fun a => h a.1)
def numT (s : ByteArray) (a b : Nat) : Nat := ((s.extract a b).data.toList).foldl (fun n d => n * 10 + (d.toNat - 48)) 0
theorem decFrom_fold : ∀ (l : List UInt8) (acc : Nat), (∀ b ∈ l, 48 ≤ b.toNat ∧ b.toNat ≤ 57) → Lib.decFrom acc l = some (l.foldl (fun n d => n * 10 + (d.toNat - 48)) acc)
 | [], acc, _ => rfl
 | b :: l, acc, h => by
  have hb := h b List.mem_cons_self
  have hd : Lib.digitVal b = some (b.toNat - 48) := by unfold Lib.digitVal; rw [if_pos hb]
  simp only [Lib.decFrom, hd, List.foldl_cons]
  exact decFrom_fold l _ (fun x hx => h x (List.mem_cons_of_mem _ hx))
theorem atoi_fold {l : List UInt8} (hne : l ≠ []) (h : ∀ b ∈ l, 48 ≤ b.toNat ∧ b.toNat ≤ 57) : Lib.atoi l = some ((l.foldl (fun n d => n * 10 + (d.toNat - 48)) 0 : Nat) : Int) := by
 obtain ⟨b, r, rfl⟩ := List.exists_cons_of_ne_nil hne
 have hb := h b List.mem_cons_self
 have h1 : (b == 45) = false := by rw [beq_eq_false_iff_ne]; intro e; subst e; exact absurd hb.1 (by decide)
 have h2 : (b == 43) = false := by rw [beq_eq_false_iff_ne]; intro e; subst e; exact absurd hb.1 (by decide)
 simp only [Lib.atoi, h1, h2]
 unfold Lib.decNat
 rw [decFrom_fold _ 0 h]
 rfl
theorem extract_mem {s : ByteArray} (hs : s.size = 10) {a b : Nat} (hab : a < b) (hb : b ≤ 10) (h : ∀ i (hi : i < 10), fits i (s[i]'(by omega))) (hd : ∀ i, a ≤ i → i < b → ¬ (i = 4 ∨ i = 7)) : (s.extract a b).data.toList ≠ [] ∧ ∀ x ∈ (s.extract a b).data.toList, 48 ≤ x.toNat ∧ x.toNat ≤ 57 := by
 have hsz : s.data.size = 10 := hs
 have he : (s.extract a b).data = s.data.extract a b := ByteArray.data_extract
 rw [he]
 have hl : (s.data.extract a b).size = b - a := by rw [Array.size_extract]; omega
 refine ⟨fun e => ?_, fun x hx => ?_⟩
 ·
  have : (s.data.extract a b).toList.length = 0 := by rw [e]; rfl
  rw [Array.length_toList, hl] at this; omega
 ·
  obtain ⟨k, hk, rfl⟩ := List.getElem_of_mem hx
  rw [Array.length_toList, hl] at hk
  rw [Array.getElem_toList, Array.getElem_extract]
  have hf := h (a + k) (by omega)
  unfold fits at hf
  rw [if_neg (hd (a + k) (by omega) (by omega))] at hf
  exact hf
theorem num_atoi {s : ByteArray} (h : okT s) {a b : Nat} (hab : a < b) (hb : b ≤ 10) (hd : ∀ i, a ≤ i → i < b → ¬ (i = 4 ∨ i = 7)) : Lib.atoi (s.extract a b).data.toList = some (numT s a b : Int) := by
 obtain ⟨hs, hf⟩ := h
 obtain ⟨h1, h2⟩ := extract_mem hs hab hb hf hd
 exact atoi_fold h1 h2
end Go.Proofs.YtoncignjcgjhhaaDoor.T
namespace Go.Proofs.YtoncignjcgjhhaaDoor.H
open Go.RowKit Go.Proofs.YtoncignjcgjhhaaDoorW.PrintWords Go.Proofs.YtoncignjcgjhhaaDoorW.PrintLast Go.Proofs.YtoncignjcgjhhaaDoorW.PrintMore
open Go.Proofs.YtoncignjcgjhhaaDoor.Q
def parseF (k : Nat) (s : ByteArray) : Option (Int × Int) := if T.okT s then date_Of.f k (T.numT s 0 4) (T.numT s 5 7) (T.numT s 8 10) else some (0, 50)
theorem parse_mono (s : ByteArray) (k : Nat) : LeO (parseF k s) (parseF (k + 1) s) := by
 unfold parseF
 by_cases h : T.okT s
 ·
  rw [if_pos h, if_pos h]; exact date_Of.mono _ _ _ _
 ·
  rw [if_neg h, if_neg h]; exact LeO.refl _
theorem bw_below {w wr : World} (h : ∃ t, w = Lib.bytesWorld wr 5 t) : Below wr.heap.size wr w := by
  obtain ⟨t, rfl⟩ := h
  exact Lib.bytesWorld_below _ _ _
set_option maxHeartbeats 8000000 in
set_option maxRecDepth 1000000 in
theorem parse_calls (k : Nat) (s : ByteArray) (r1 r2 : Int) (w : World) (h : parseF k s = some (r1, r2)) :
  Calls Tryd.prog 15 #[.string s] w fun e w' => e = .returned (.tuple #[.int .i64 r1, .int .i64 r2]) ∧ Below w.heap.size w w' := by
 unfold parseF at h
 by_cases hs : s.size = 10
 ·
  go_enter Tryd.func15, Tryd.ntmps15
  have hsb : (((s.size : Nat) : Int) != 10) = false := by rw [hs]; rfl
  go_wp2
  have HH := Aside0.mk h;clear h
  have hbad : ∀ (pos : Nat) (hp : pos < s.size), pos < 10 → ¬ T.fits pos (s[pos]'hp) → r1 = 0 ∧ r2 = 50 := by
   intro pos hp hp2 hn
   have h := HH.out
   rw [if_neg (fun hok => hn (hok.2 pos hp2))] at h
   have := Option.some.inj h
   exact ⟨(Prod.mk.inj this).1.symm, (Prod.mk.inj this).2.symm⟩
  go_loopw [] (fun wr => ∃ pos : Nat, wr.heap[w.heap.size]? = some (.stringIter s pos) ∧ Below w.heap.size w wr ∧ pos ≤ 10 ∧ ∀ (i : Nat) (hi : i < s.size), i < pos → T.fits i (s[i]'hi)) (fun wr => s.size - wr.iterPos w.heap.size)
  case atStart =>
   refine ⟨0, World.iter_heap w s 0, (Below.refl _ w).alloc (Nat.le_refl _) _, by omega, fun i hi h0 => absurd h0 (Nat.not_lt_zero _)⟩
  case round =>
   obtain ⟨pos, hit, hbw, hp10, hfit⟩ := hrel
   have hsz : w.heap.size < wr.heap.size := (Array.getElem?_eq_some_iff.1 hit).1
   by_cases hp : pos < s.size
   ·
    have hnx : ∀ ty, (Instr.next (.pointer (some ⟨w.heap.size, 0, none⟩)) true ty).run Tryd.prog wr = _ := fun ty => Lib.run_next_any_at wr w.heap.size s pos ty hit hp
    have hrune : ∃ r wd : Nat, Utf8.decode s pos = (r, wd) ∧ ((s[pos]'hp).toNat < 128 ∧ r = (s[pos]'hp).toNat ∧ wd = 1 ∨ 128 ≤ (s[pos]'hp).toNat ∧ 128 ≤ r) := by
     by_cases ha : (s[pos]'hp).toNat < 128
     ·
      exact ⟨_, _, decode_ascii s pos hp ha, .inl ⟨ha, rfl, rfl⟩⟩
     ·
      exact ⟨_, _, rfl, .inr ⟨by omega, (decode_high s pos hp (by omega)).1⟩⟩
    obtain ⟨r, wd, hdec, hr⟩ := hrune
    simp only [hdec] at hnx
    have hbw2 := Lib.below_iterAt hbw (k := w.heap.size) (Nat.le_refl _) s (pos + wd)
    have hit2 := Lib.iterAt_heap wr w.heap.size s pos (pos + wd) hit
    have hnext : T.fits pos (s[pos]'hp) → wd = 1 → ∀ (i : Nat) (hi : i < s.size), i < pos + wd → T.fits i (s[i]'hi) := by
     intro hf hw1 i hi hlt
     by_cases he : i = pos
     ·
      subst he; exact hf
     ·
      exact hfit i hi (by omega)
    obtain ⟨np, hnp⟩ : ∃ np, pos + wd = np := ⟨_, rfl⟩
    rw [hnp] at hbw2 hit2 hnext
    simp only [hnp] at hnx
    have hpi : (pos : Int) < 10 := by omega
    by_cases hf : T.fits pos (s[pos]'hp)
    ·
     have hf2 := hf
     unfold T.fits at hf2
     by_cases h47 : pos = 4 ∨ pos = 7
     ·
      rw [if_pos h47] at hf2
      have hb : (s[pos]'hp).toNat = 45 := by rw [hf2]; rfl
      obtain ⟨hr45, hwd⟩ : r = 45 ∧ wd = 1 := by omega
      rw [hr45] at hnx
      have b45 : (((45 : Nat) : Int) != 45) = false := rfl
      rcases h47 with h4 | h7
      ·
       have b4 : ((pos : Int) == 4) = true := by rw [h4]; rfl
       have HN := Aside0.mk hnp;have HW := Aside0.mk hwd
       (try clear h4); (try clear h7); (try clear hrb); (try clear hb); (try clear hr45); clear hnp hwd hf2 hdec hr
       go_wp2
       go_roundw
       case rel => have e1 := HN.out; have e2 := HW.out; exact ⟨np, hit2, hbw2, by omega, hnext hf e2⟩
       case measure => have e1 := HN.out; have e2 := HW.out; simp only [World.iterPos, hit2, hit]; omega
      ·
       have b4 : ((pos : Int) == 4) = false := by rw [h7]; rfl
       have b7 : ((pos : Int) == 7) = true := by rw [h7]; rfl
       have HN := Aside0.mk hnp;have HW := Aside0.mk hwd
       (try clear h4); (try clear h7); (try clear hrb); (try clear hb); (try clear hr45); clear hnp hwd hf2 hdec hr
       go_wp2
       go_roundw
       case rel => have e1 := HN.out; have e2 := HW.out; exact ⟨np, hit2, hbw2, by omega, hnext hf e2⟩
       case measure => have e1 := HN.out; have e2 := HW.out; simp only [World.iterPos, hit2, hit]; omega
     ·
      rw [if_neg h47] at hf2
      obtain ⟨hrb, hwd⟩ : r = (s[pos]'hp).toNat ∧ wd = 1 := by omega
      have b4 : ((pos : Int) == 4) = false := by rw [beq_eq_false_iff_ne]; omega
      have b7 : ((pos : Int) == 7) = false := by rw [beq_eq_false_iff_ne]; omega
      have d1 : decide ((r : Int) < 48) = false := decide_eq_false (by omega)
      have d2 : decide ((57 : Int) < (r : Int)) = false := decide_eq_false (by omega)
      have HN := Aside0.mk hnp;have HW := Aside0.mk hwd
      (try clear h4); (try clear h7); (try clear hrb); (try clear hb); (try clear hr45); clear hnp hwd hf2 hdec hr
      go_wp2
      go_roundw
      case rel => have e1 := HN.out; have e2 := HW.out; exact ⟨np, hit2, hbw2, by omega, hnext hf e2⟩
      case measure => have e1 := HN.out; have e2 := HW.out; simp only [World.iterPos, hit2, hit]; omega
    ·
     by_cases h47 : pos = 4 ∨ pos = 7
     ·
      have hr45 : r ≠ 45 := by
       intro e
       apply hf
       unfold T.fits
       rw [if_pos h47]
       have : (s[pos]'hp).toNat = 45 := by omega
       exact UInt8.toNat_inj.1 this
      have b45 : ((r : Int) != 45) = true := by rw [bne_iff_ne]; omega
      rcases h47 with h4 | h7
      ·
       have b4 : ((pos : Int) == 4) = true := by rw [h4]; rfl
       obtain ⟨rfl, rfl⟩ := hbad pos hp (by omega) hf
       (try clear h4); (try clear h7); clear hnp hdec hr
       go_wp2
       go_ret2
       exact ⟨rfl, hbw2⟩
      ·
       have b4 : ((pos : Int) == 4) = false := by rw [h7]; rfl
       have b7 : ((pos : Int) == 7) = true := by rw [h7]; rfl
       obtain ⟨rfl, rfl⟩ := hbad pos hp (by omega) hf
       (try clear h4); (try clear h7); clear hnp hdec hr
       go_wp2
       go_ret2
       exact ⟨rfl, hbw2⟩
     ·
      have hr2 : r < 48 ∨ 57 < r := by
       refine Classical.byContradiction (fun hn => hf ?_)
       unfold T.fits
       rw [if_neg h47]
       omega
      have b4 : ((pos : Int) == 4) = false := by rw [beq_eq_false_iff_ne]; omega
      have b7 : ((pos : Int) == 7) = false := by rw [beq_eq_false_iff_ne]; omega
      by_cases h48 : r < 48
      ·
       have d1 : decide ((r : Int) < 48) = true := decide_eq_true (by omega)
       obtain ⟨rfl, rfl⟩ := hbad pos hp (by omega) hf
       (try clear h4); (try clear h7); clear hnp hdec hr
       go_wp2
       go_ret2
       exact ⟨rfl, hbw2⟩
      ·
       have d1 : decide ((r : Int) < 48) = false := decide_eq_false (by omega)
       have d2 : decide ((57 : Int) < (r : Int)) = true := decide_eq_true (by omega)
       obtain ⟨rfl, rfl⟩ := hbad pos hp (by omega) hf
       (try clear h4); (try clear h7); clear hnp hdec hr
       go_wp2
       go_ret2
       exact ⟨rfl, hbw2⟩
   ·
    have hok : T.okT s := ⟨hs, fun i hi => hfit i (by omega) (by omega)⟩
    have hnx : ∀ ty, (Instr.next (.pointer (some ⟨w.heap.size, 0, none⟩)) true ty).run Tryd.prog wr = _ := fun ty => Lib.run_next_end_at wr w.heap.size s pos ty hit hp
    have h := HH.out
    rw [if_pos hok] at h
    have A1 := Aside0.mk h
    have a1 := Aside0.mk (T.num_atoi hok (a := 0) (b := 4) (by omega) (by omega) (by intro i h1 h2; omega))
    have a2 := Aside0.mk (T.num_atoi hok (a := 5) (b := 7) (by omega) (by omega) (by intro i h1 h2; omega))
    have a3 := Aside0.mk (T.num_atoi hok (a := 8) (b := 10) (by omega) (by omega) (by intro i h1 h2; omega))
    clear h hbad HH;have HB := Aside0.mk hbw;have hsz10 := hs;clear hbw hit hfit hp
    go_wp2_with (first | (go_at_call 34; (with_reducible refine (Tryd.strconv_Atoi (s.extract 0 4) _ ?s1 a1.out _).mono ?_); (case s1 => rw [ByteArray.size_extract]; omega); rintro e w1 ⟨rfl, ht⟩; have n0_ := Aside0.mk (below_step HB.out (bw_below ht)); clear HB ht; have HB := n0_; clear n0_) | (go_at_call 34; (with_reducible refine (Tryd.strconv_Atoi (s.extract 5 7) _ ?s1 a2.out _).mono ?_); (case s1 => rw [ByteArray.size_extract]; omega); rintro e w2 ⟨rfl, ht⟩; have n0_ := Aside0.mk (below_step HB.out (bw_below ht)); clear HB ht; have HB := n0_; clear n0_) | (go_at_call 34; (with_reducible refine (Tryd.strconv_Atoi (s.extract 8 10) _ ?s1 a3.out _).mono ?_); (case s1 => rw [ByteArray.size_extract]; omega); rintro e w3 ⟨rfl, ht⟩; have n0_ := Aside0.mk (below_step HB.out (bw_below ht)); clear HB ht; have HB := n0_; clear n0_) | (go_at_call 21; (with_reducible refine (date_Of.calls k _ _ _ r1 r2 _ A1.out).mono ?_); rintro e w5 ⟨rfl, ⟨n_, rfl⟩⟩))
    go_ret2
    exact ⟨rfl, by repeat (first | exact HB.out | apply pw_below_drewN)⟩
 ·
  go_enter Tryd.func15, Tryd.ntmps15
  have hsb : (((s.size : Nat) : Int) != 10) = true := by rw [bne_iff_ne]; omega
  rw [if_neg (fun hok => hs hok.1)] at h
  obtain ⟨rfl, rfl⟩ := Prod.mk.inj (Option.some.inj h)
  clear h
  go_wp2
  go_ret2
  exact ⟨rfl, Below.refl _ _⟩
end Go.Proofs.YtoncignjcgjhhaaDoor.H
namespace Go.Proofs.YtoncignjcgjhhaaDoor.Q
open Go.RowKit Go.Proofs.YtoncignjcgjhhaaDoorW.PrintWords Go.Proofs.YtoncignjcgjhhaaDoorW.PrintLast Go.Proofs.YtoncignjcgjhhaaDoorW.PrintMore
attribute [local go_sem] max2_int min2_int max_two min_two max_three min_three max_four min_four   -- for this text's walks alone
def date_Parse.f (k : Nat) (a0 : ByteArray) : Option (Int × Int) := Go.Proofs.YtoncignjcgjhhaaDoor.H.parseF k a0
theorem date_Parse.mono : ∀ a0 k, LeO (date_Parse.f k a0) (date_Parse.f (k + 1) a0) := fun a0 k => Go.Proofs.YtoncignjcgjhhaaDoor.H.parse_mono a0 k
theorem date_Parse.calls (k : Nat) (a0 : ByteArray) (r1 : Int) (r2 : Int) (w : World) (h : date_Parse.f k a0 = some (r1, r2)) :
    Calls Tryd.prog 15 #[.string a0] w fun e w' => e = .returned (.tuple #[.int .i64 r1, .int .i64 r2]) ∧ Below w.heap.size w w' := Go.Proofs.YtoncignjcgjhhaaDoor.H.parse_calls k a0 r1 r2 w h
end Go.Proofs.YtoncignjcgjhhaaDoor.Q
