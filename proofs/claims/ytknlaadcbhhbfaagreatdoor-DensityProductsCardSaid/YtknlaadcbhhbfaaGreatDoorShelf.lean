/-
  DERIVED: THE SHELF's CONTRACTS AT THIS DUMP, IN PLAIN WORDS (tools/lay-plain.mjs out of 'TryzShelf.lean', which tools/lay-shelf.mjs wrote): THE SAME DECLARATIONS UNDER THE SAME NAMES: 'import', 'namespace', 'open', 'def', 'theorem' AND NOTHING ELSE: no command of the shelf's: FOR A HAND-IN. Each laying: the table of numbers ('.._ren') and one theorem, a field a fact of the dump's own or the kernel's comparison; each contract: ONE APPLICATION.
-/
import Derived.Shelf.Strings.Builder1
import Derived.Shelf.Strings.Builder2
import Derived.Shelf.Strings.OnBuilder
import Derived.Shelf.Small.Bits
import Derived.Shelf.Small.Wraps
import Derived.Shelf.Strings.BuilderF
import Derived.Shelf.Strings.BuilderK
import Derived.Shelf.Strings.Builder2Cap
import Derived.Shelf.Strconv.Itoa0
import Derived.Shelf.Strconv.Itoa1
import Derived.Shelf.LaysM
import Derived.Shelf.Strconv.Itoa2
import Derived.Shelf.Strconv.Itoa3
import Derived.Shelf.Strings.Prefix
import Derived.Shelf.Bits.Mul64
import Derived.Shelf.Strings.Repeat
import Derived.Shelf.Strings.BuilderCap
import Derived.Ground.Names2Prog
import Derived.Shelf.Slices.ReverseS
import Derived.Shelf.Slices.SearchI
import Derived.Shelf.Slices.Cells
import Derived.Test.YtknlaadcbhhbfaaGreatDoorProg
namespace Go.Proofs
open Go.Shelf
def Tryz.lays156_ren : Go.Shelf.Ren := ⟨fun | 156 => 78 | 165 => 111 | 166 => 112 | 169 => 114 | 240 => 143 | 241 => 144 | 276 => 156 | 277 => 157 | n => n, fun | 31 => 111 | 9 => 9 | 3 => 3 | 4 => 4 | 0 => 0 | 20 => 20 | 72 => 155 | 76 => 159 | 70 => 153 | 37 => 86 | 75 => 158 | 127 => 182 | 164 => 191 | 5 => 5 | 80 => 162 | n => n, fun | n => n⟩
theorem Tryz.lays156 : Go.Proofs.Lays.n156 Tryz.prog Tryz.lays156_ren := {
 mixed := by kernel_rfl
 f156 := Tryz.func78.trans (congrArg some (by kernel_rfl))
 f165 := Tryz.func111.trans (congrArg some (by kernel_rfl))
 f166 := Tryz.func112.trans (congrArg some (by kernel_rfl))
 f169 := Tryz.func114.trans (congrArg some (by kernel_rfl))
 f240 := Tryz.func143.trans (congrArg some (by kernel_rfl))
 f241 := Tryz.func144.trans (congrArg some (by kernel_rfl))
 f276 := Tryz.func156.trans (congrArg some (by kernel_rfl))
 f277 := Tryz.func157.trans (congrArg some (by kernel_rfl))
 t0 := Tryz.underlying0
 a0 := Tryz.isAgg0
 z0 := Tryz.sizeOf0
 v0 := Tryz.zeroValue0
 t3 := Tryz.underlying3
 a3 := Tryz.isAgg3
 z3 := Tryz.sizeOf3
 v3 := Tryz.zeroValue3
 t4 := Tryz.underlying4
 a4 := Tryz.isAgg4
 z4 := Tryz.sizeOf4
 v4 := Tryz.zeroValue4
 t9 := Tryz.underlying9
 a9 := Tryz.isAgg9
 z9 := Tryz.sizeOf9
 v9 := Tryz.zeroValue9
 t20 := Tryz.underlying20
 a20 := Tryz.isAgg20
 z20 := Tryz.sizeOf20
 v20 := Tryz.zeroValue20
 t31 := Tryz.underlying111
 a31 := Tryz.isAgg111
 z31 := Tryz.sizeOf111
 v31 := Tryz.zeroValue111
 t37 := Tryz.underlying86
 a37 := Tryz.isAgg86
 z37 := Tryz.sizeOf86
 v37 := Tryz.zeroValue86
 t70 := Tryz.underlying153
 a70 := Tryz.isAgg153
 z70 := Tryz.sizeOf153
 v70 := Tryz.zeroValue153
 t72 := Tryz.underlying155
 a72 := Tryz.isAgg155
 z72 := Tryz.sizeOf155
 v72 := Tryz.zeroValue155
 t75 := Tryz.underlying158
 a75 := Tryz.isAgg158
 z75 := Tryz.sizeOf158
 v75 := Tryz.zeroValue158
 t76 := Tryz.underlying159
 a76 := Tryz.isAgg159
 z76 := Tryz.sizeOf159
 v76 := Tryz.zeroValue159
 t127 := Tryz.underlying182
 a127 := Tryz.isAgg182
 z127 := Tryz.sizeOf182
 v127 := Tryz.zeroValue182
 t164 := Tryz.underlying191
 a164 := Tryz.isAgg191
 z164 := Tryz.sizeOf191
 v164 := Tryz.zeroValue191 }
theorem Tryz.Builder_Extra_156 : Builder.Extra Tryz.prog Tryz.lays156_ren := {
 sizeBuilder := by kernel_rfl
 liesBuilder := by kernel_rfl
 t5 := Tryz.underlying5
 a5 := Tryz.isAgg5
 z5 := Tryz.sizeOf5
 v5 := Tryz.zeroValue5
 infoByte := by kernel_rfl
 cellsByte := by kernel_rfl
 sizeByte := by kernel_rfl
 neB5 := by decide }
open Go.RowKit in
/-- strings.Join: "Join concatenates the elements of its first argument to create a single string. The separator string sep is placed between elements in the resulting string.": HOWEVER MANY ELEMENTS. Below the heap's end the world is as it was. (LAID: no walk: one application.) -/
theorem Tryz.strings_Join (bk o c : Nat) (xs : List ByteArray) (sep : ByteArray) (w : World) (hcells : ∀ (j : Nat) x, xs[j]? = some x → w.cell? ⟨bk, o + j, none⟩ = some (.string x)) (hbk : bk < w.heap.size) (hN : xs.length ≤ 140737488355328) (hcap : xs.length ≤ c) (hlen : (Lib.join (xs.map (·.data.toList)) sep.data.toList).length ≤ 140737488355328) :
    Calls Tryz.prog 78 #[.slice (some ⟨bk, o, none⟩) xs.length c, .string sep] w fun e w' => e = .returned (.string ⟨(Lib.join (xs.map (·.data.toList)) sep.data.toList).toArray⟩) ∧ Below w.heap.size w w' := Any.strings_Join Tryz.lays156 Tryz.Builder_Extra_156 bk o c xs sep w hcells hbk hN hcap hlen
def Tryz.lays128_ren : Go.Shelf.Ren := ⟨fun | 128 => 151 | n => n, fun | 51 => 69 | 3 => 3 | 4 => 4 | 46 => 70 | 5 => 5 | 9 => 9 | n => n, fun | n => n⟩
theorem Tryz.lays128 : Go.Proofs.Lays.n128 Tryz.prog Tryz.lays128_ren := {
 mixed := by kernel_rfl
 f128 := Tryz.func151.trans (congrArg some (by kernel_rfl))
 t3 := Tryz.underlying3
 a3 := Tryz.isAgg3
 z3 := Tryz.sizeOf3
 v3 := Tryz.zeroValue3
 t4 := Tryz.underlying4
 a4 := Tryz.isAgg4
 z4 := Tryz.sizeOf4
 v4 := Tryz.zeroValue4
 t5 := Tryz.underlying5
 a5 := Tryz.isAgg5
 z5 := Tryz.sizeOf5
 v5 := Tryz.zeroValue5
 t9 := Tryz.underlying9
 a9 := Tryz.isAgg9
 z9 := Tryz.sizeOf9
 v9 := Tryz.zeroValue9
 t46 := Tryz.underlying70
 a46 := Tryz.isAgg70
 z46 := Tryz.sizeOf70
 v46 := Tryz.zeroValue70
 t51 := Tryz.underlying69
 a51 := Tryz.isAgg69
 z51 := Tryz.sizeOf69
 v51 := Tryz.zeroValue69 }
/-- bits.Len32: "Len32 returns the minimum number of bits required to represent x; the result is 0 for x == 0.": IT RETURNS 'Lib.bitLen x'; the world is as it was. ('h0', 'h1': x is a uint32.) (LAID: no walk: one application.) -/
theorem Tryz.bits_Len32 (x : Int) (w : World) (h0 : 0 ≤ x) (h1 : x ≤ 4294967295) :
    Calls Tryz.prog 151 #[.int .u32 x] w fun e w' => e = .returned (.int .i64 (Lib.bitLen x.toNat)) ∧ w' = w := Any.bits_Len32 Tryz.lays128 x w h0 h1
def Tryz.lays133_ren : Go.Shelf.Ren := ⟨fun | 133 => 131 | 128 => 151 | n => n, fun | 51 => 69 | 3 => 3 | 4 => 4 | 46 => 70 | 5 => 5 | 9 => 9 | n => n, fun | n => n⟩
theorem Tryz.lays133 : Go.Proofs.Lays.n133 Tryz.prog Tryz.lays133_ren := {
 mixed := by kernel_rfl
 f128 := Tryz.func151.trans (congrArg some (by kernel_rfl))
 f133 := Tryz.func131.trans (congrArg some (by kernel_rfl))
 t3 := Tryz.underlying3
 a3 := Tryz.isAgg3
 z3 := Tryz.sizeOf3
 v3 := Tryz.zeroValue3
 t4 := Tryz.underlying4
 a4 := Tryz.isAgg4
 z4 := Tryz.sizeOf4
 v4 := Tryz.zeroValue4
 t5 := Tryz.underlying5
 a5 := Tryz.isAgg5
 z5 := Tryz.sizeOf5
 v5 := Tryz.zeroValue5
 t9 := Tryz.underlying9
 a9 := Tryz.isAgg9
 z9 := Tryz.sizeOf9
 v9 := Tryz.zeroValue9
 t46 := Tryz.underlying70
 a46 := Tryz.isAgg70
 z46 := Tryz.sizeOf70
 v46 := Tryz.zeroValue70
 t51 := Tryz.underlying69
 a51 := Tryz.isAgg69
 z51 := Tryz.sizeOf69
 v51 := Tryz.zeroValue69 }
/-- bits.LeadingZeros32: "LeadingZeros32 returns the number of leading zero bits in x; the result is 32 for x == 0.": IT RETURNS '32 - Lib.bitLen x'; the world is as it was. ITS CALLEE bits.Len32 IS MET BY ITS OWN CONTRACT OFF THE SHELF (lay that first): entered in place it sends the kernel out of memory. (LAID: no walk: one application.) -/
theorem Tryz.bits_LeadingZeros32 (x : Int) (w : World) (h0 : 0 ≤ x) (h1 : x ≤ 4294967295) :
    Calls Tryz.prog 131 #[.int .u32 x] w fun e w' => e = .returned (.int .i64 (32 - (Lib.bitLen x.toNat : Int))) ∧ w' = w := Any.bits_LeadingZeros32 Tryz.lays133 x w h0 h1
def Tryz.laysM171_ren : Go.Shelf.Ren := ⟨fun | 171 => 75 | 243 => 108 | 246 => 139 | 283 => 152 | 284 => 153 | 285 => 154 | 286 => 155 | 129 => 161 | 317 => 160 | 318 => 162 | 319 => 163 | 320 => 164 | 337 => 165 | 338 => 129 | n => n, fun | 3 => 3 | 9 => 9 | 2 => 2 | 4 => 4 | 171 => 187 | 0 => 0 | 53 => 67 | 37 => 86 | 5 => 5 | 173 => 189 | 212 => 196 | 51 => 69 | 20 => 20 | 213 => 197 | 46 => 70 | 232 => 199 | 233 => 185 | n => n, fun | 17 => 4 | 18 => 6 | 19 => 2 | n => n⟩
theorem Tryz.laysM171 : Go.Proofs.LaysM.n171 Tryz.prog Tryz.laysM171_ren := {
 mixed := by kernel_rfl
 f129 := Tryz.func161.trans (congrArg some (by kernel_rfl))
 f171 := Tryz.func75.trans (congrArg some (by kernel_rfl))
 f243 := Tryz.func108.trans (congrArg some (by kernel_rfl))
 f246 := Tryz.func139.trans (congrArg some (by kernel_rfl))
 f283 := Tryz.func152.trans (congrArg some (by kernel_rfl))
 f284 := Tryz.func153.trans (congrArg some (by kernel_rfl))
 f285 := Tryz.func154.trans (congrArg some (by kernel_rfl))
 f286 := Tryz.func155.trans (congrArg some (by kernel_rfl))
 f317 := Tryz.func160.trans (congrArg some (by kernel_rfl))
 f318 := Tryz.func162.trans (congrArg some (by kernel_rfl))
 f319 := Tryz.func163.trans (congrArg some (by kernel_rfl))
 f320 := Tryz.func164.trans (congrArg some (by kernel_rfl))
 f337 := Tryz.func165.trans (congrArg some (by kernel_rfl))
 f338 := Tryz.func129.trans (congrArg some (by kernel_rfl))
 t0 := Tryz.underlying0
 a0 := Tryz.isAgg0
 z0 := Tryz.sizeOf0
 v0 := Tryz.zeroValue0
 t2 := Tryz.underlying2
 a2 := Tryz.isAgg2
 z2 := Tryz.sizeOf2
 v2 := Tryz.zeroValue2
 t3 := Tryz.underlying3
 a3 := Tryz.isAgg3
 z3 := Tryz.sizeOf3
 v3 := Tryz.zeroValue3
 t4 := Tryz.underlying4
 a4 := Tryz.isAgg4
 z4 := Tryz.sizeOf4
 v4 := Tryz.zeroValue4
 t5 := Tryz.underlying5
 a5 := Tryz.isAgg5
 z5 := Tryz.sizeOf5
 v5 := Tryz.zeroValue5
 t9 := Tryz.underlying9
 a9 := Tryz.isAgg9
 z9 := Tryz.sizeOf9
 v9 := Tryz.zeroValue9
 t20 := Tryz.underlying20
 a20 := Tryz.isAgg20
 z20 := Tryz.sizeOf20
 v20 := Tryz.zeroValue20
 t37 := Tryz.underlying86
 a37 := Tryz.isAgg86
 z37 := Tryz.sizeOf86
 v37 := Tryz.zeroValue86
 t46 := Tryz.underlying70
 a46 := Tryz.isAgg70
 z46 := Tryz.sizeOf70
 v46 := Tryz.zeroValue70
 t51 := Tryz.underlying69
 a51 := Tryz.isAgg69
 z51 := Tryz.sizeOf69
 v51 := Tryz.zeroValue69
 t53 := Tryz.underlying67
 a53 := Tryz.isAgg67
 z53 := Tryz.sizeOf67
 v53 := Tryz.zeroValue67
 t171 := Tryz.underlying187
 a171 := Tryz.isAgg187
 z171 := Tryz.sizeOf187
 v171 := Tryz.zeroValue187
 t173 := Tryz.underlying189
 a173 := Tryz.isAgg189
 z173 := Tryz.sizeOf189
 v173 := Tryz.zeroValue189
 t212 := Tryz.underlying196
 a212 := Tryz.isAgg196
 z212 := Tryz.sizeOf196
 v212 := Tryz.zeroValue196
 t213 := Tryz.underlying197
 a213 := Tryz.isAgg197
 z213 := Tryz.sizeOf197
 t232 := Tryz.underlying199
 a232 := Tryz.isAgg199
 z232 := Tryz.sizeOf199
 v232 := Tryz.zeroValue199
 t233 := Tryz.underlying185
 a233 := Tryz.isAgg185
 z233 := Tryz.sizeOf185
 v233 := Tryz.zeroValue185
 g17 := by kernel_rfl
 g18 := by kernel_rfl
 g19 := by kernel_rfl
 i0 := by kernel_rfl
 i2 := by kernel_rfl
 i3 := by kernel_rfl
 i4 := by kernel_rfl
 i5 := by kernel_rfl
 i9 := by kernel_rfl
 i20 := by kernel_rfl
 i37 := by kernel_rfl
 i46 := by kernel_rfl
 i51 := by kernel_rfl
 i53 := by kernel_rfl
 i171 := by kernel_rfl
 i173 := by kernel_rfl
 i212 := by kernel_rfl
 i232 := by kernel_rfl
 i233 := by kernel_rfl
 m17 := by kernel_rfl
 m18 := by kernel_rfl
 m19 := by kernel_rfl }
open Go.RowKit Go.Sort Go.Lib in
/-- strconv.Itoa: "Itoa is equivalent to FormatInt(int64(i), 10).": i's DECIMAL NUMERAL ('Lib.itoa': a '-' where i is negative, then the digits), FOR EVERY int. The world behind the call: the world before it, new blocks behind the heap (the library's 'var a [24]byte'), draws. (LAID: no walk: one application.) -/
theorem Tryz.strconv_Itoa (n : Int) (h0 : -9223372036854775808 ≤ n) (h1 : n ≤ 9223372036854775807) (w : World) (htab : Lib.TabIs Tryz.prog w "internal/strconv.uint64pow10" .u64 Lib.pow10Tab) :
    Calls Tryz.prog 75 #[.int .i64 n] w fun e w' => e = .returned (.string ⟨(Lib.itoa n).toArray⟩) ∧ ∃ k os, w' = grow (w.drewN k) os := Any.strconv_Itoa Tryz.laysM171 n h0 h1 w htab
def Tryz.lays105_ren : Go.Shelf.Ren := ⟨fun | 105 => 76 | 212 => 109 | 99 => 110 | 165 => 111 | 166 => 112 | 170 => 113 | 169 => 114 | 263 => 140 | 264 => 141 | 206 => 142 | 240 => 143 | 241 => 144 | 276 => 156 | 277 => 157 | n => n, fun | 9 => 9 | 3 => 3 | 4 => 4 | 20 => 20 | 0 => 0 | 46 => 70 | 109 => 150 | 5 => 5 | 72 => 155 | 76 => 159 | 51 => 69 | 146 => 148 | 53 => 67 | 148 => 180 | 70 => 153 | 37 => 86 | 75 => 158 | 127 => 182 | 164 => 191 | 80 => 162 | n => n, fun | n => n⟩
theorem Tryz.lays105 : Go.Proofs.Lays.n105 Tryz.prog Tryz.lays105_ren := {
 mixed := by kernel_rfl
 f99 := Tryz.func110.trans (congrArg some (by kernel_rfl))
 f105 := Tryz.func76.trans (congrArg some (by kernel_rfl))
 f165 := Tryz.func111.trans (congrArg some (by kernel_rfl))
 f166 := Tryz.func112.trans (congrArg some (by kernel_rfl))
 f169 := Tryz.func114.trans (congrArg some (by kernel_rfl))
 f170 := Tryz.func113.trans (congrArg some (by kernel_rfl))
 f206 := Tryz.func142.trans (congrArg some (by kernel_rfl))
 f212 := Tryz.func109.trans (congrArg some (by kernel_rfl))
 f240 := Tryz.func143.trans (congrArg some (by kernel_rfl))
 f241 := Tryz.func144.trans (congrArg some (by kernel_rfl))
 f263 := Tryz.func140.trans (congrArg some (by kernel_rfl))
 f264 := Tryz.func141.trans (congrArg some (by kernel_rfl))
 f276 := Tryz.func156.trans (congrArg some (by kernel_rfl))
 f277 := Tryz.func157.trans (congrArg some (by kernel_rfl))
 t0 := Tryz.underlying0
 a0 := Tryz.isAgg0
 z0 := Tryz.sizeOf0
 v0 := Tryz.zeroValue0
 t3 := Tryz.underlying3
 a3 := Tryz.isAgg3
 z3 := Tryz.sizeOf3
 v3 := Tryz.zeroValue3
 t4 := Tryz.underlying4
 a4 := Tryz.isAgg4
 z4 := Tryz.sizeOf4
 v4 := Tryz.zeroValue4
 t5 := Tryz.underlying5
 a5 := Tryz.isAgg5
 z5 := Tryz.sizeOf5
 v5 := Tryz.zeroValue5
 t9 := Tryz.underlying9
 a9 := Tryz.isAgg9
 z9 := Tryz.sizeOf9
 v9 := Tryz.zeroValue9
 t20 := Tryz.underlying20
 a20 := Tryz.isAgg20
 z20 := Tryz.sizeOf20
 v20 := Tryz.zeroValue20
 t37 := Tryz.underlying86
 a37 := Tryz.isAgg86
 z37 := Tryz.sizeOf86
 v37 := Tryz.zeroValue86
 t46 := Tryz.underlying70
 a46 := Tryz.isAgg70
 z46 := Tryz.sizeOf70
 v46 := Tryz.zeroValue70
 t51 := Tryz.underlying69
 a51 := Tryz.isAgg69
 z51 := Tryz.sizeOf69
 v51 := Tryz.zeroValue69
 t53 := Tryz.underlying67
 a53 := Tryz.isAgg67
 z53 := Tryz.sizeOf67
 v53 := Tryz.zeroValue67
 t70 := Tryz.underlying153
 a70 := Tryz.isAgg153
 z70 := Tryz.sizeOf153
 v70 := Tryz.zeroValue153
 t72 := Tryz.underlying155
 a72 := Tryz.isAgg155
 z72 := Tryz.sizeOf155
 v72 := Tryz.zeroValue155
 t75 := Tryz.underlying158
 a75 := Tryz.isAgg158
 z75 := Tryz.sizeOf158
 v75 := Tryz.zeroValue158
 t76 := Tryz.underlying159
 a76 := Tryz.isAgg159
 z76 := Tryz.sizeOf159
 v76 := Tryz.zeroValue159
 t109 := Tryz.underlying150
 a109 := Tryz.isAgg150
 z109 := Tryz.sizeOf150
 v109 := Tryz.zeroValue150
 t127 := Tryz.underlying182
 a127 := Tryz.isAgg182
 z127 := Tryz.sizeOf182
 v127 := Tryz.zeroValue182
 t146 := Tryz.underlying148
 a146 := Tryz.isAgg148
 z146 := Tryz.sizeOf148
 v146 := Tryz.zeroValue148
 t148 := Tryz.underlying180
 a148 := Tryz.isAgg180
 z148 := Tryz.sizeOf180
 v148 := Tryz.zeroValue180
 t164 := Tryz.underlying191
 a164 := Tryz.isAgg191
 z164 := Tryz.sizeOf191
 v164 := Tryz.zeroValue191 }
theorem Tryz.Builder_Extra_105 : Builder.Extra Tryz.prog Tryz.lays105_ren := {
 sizeBuilder := by kernel_rfl
 liesBuilder := by kernel_rfl
 t5 := Tryz.underlying5
 a5 := Tryz.isAgg5
 z5 := Tryz.sizeOf5
 v5 := Tryz.zeroValue5
 infoByte := by kernel_rfl
 cellsByte := by kernel_rfl
 sizeByte := by kernel_rfl
 neB5 := by decide }
open Go.RowKit Go.Lib in
/-- **strings.Repeat: count ≥ 0, the result within one allocation: count copies of s.** (LAID: no walk: one application.) -/
theorem Tryz.strings_Repeat (s : ByteArray) (c : Nat) (w : World) (hc : c ≤ 9223372036854775807) (hlen : s.size * c ≤ 140737488355328) :
    Calls Tryz.prog 76 #[.string s, .int .i64 c] w fun e w' => e = .returned (.string ⟨(Lib.repeatL s.data.toList c).toArray⟩) ∧ Below w.heap.size w w' := Any.strings_Repeat Tryz.lays105 Tryz.Builder_Extra_105 s c w hc hlen
def Tryz.laysNm217_ren : Go.Shelf.Ren := ⟨fun | 17 => 77 | n => n, fun | 24 => 111 | 9 => 9 | 3 => 3 | 4 => 4 | 0 => 0 | n => n, fun | n => n⟩
theorem Tryz.laysNm217 : Go.Proofs.Lays2.n17 Tryz.prog Tryz.laysNm217_ren := {
 mixed := by kernel_rfl
 f17 := Tryz.func77.trans (congrArg some (by kernel_rfl))
 t0 := Tryz.underlying0
 a0 := Tryz.isAgg0
 z0 := Tryz.sizeOf0
 v0 := Tryz.zeroValue0
 t3 := Tryz.underlying3
 a3 := Tryz.isAgg3
 z3 := Tryz.sizeOf3
 v3 := Tryz.zeroValue3
 t4 := Tryz.underlying4
 a4 := Tryz.isAgg4
 z4 := Tryz.sizeOf4
 v4 := Tryz.zeroValue4
 t9 := Tryz.underlying9
 a9 := Tryz.isAgg9
 z9 := Tryz.sizeOf9
 v9 := Tryz.zeroValue9
 t24 := Tryz.underlying111
 a24 := Tryz.isAgg111
 z24 := Tryz.sizeOf111
 v24 := Tryz.zeroValue111 }
open Go.RowKit Go.Lib Go.Sort in
/-- slices.Reverse at []string, of an argument. (LAID: no walk: one application.) -/
theorem Tryz.slices_Reverse_string_cells (b off n c : Nat) (Sx : Nat → ByteArray) (w : World) (hbig : n ≤ 9223372036854775807) (hc : ∀ i, i < n → w.cell? ⟨b, off + i, none⟩ = some (.string (Sx i))) (hf : ∀ j, j < n → w.frozen? ⟨b, off + j, none⟩ = false) :
    Calls Tryz.prog 77 #[.slice (some ⟨b, off, none⟩) n c] w fun e w' => e = .returned (.tuple #[]) ∧ ∃ q, w' = (w.drewN q).setCells b off ((Lib.strsOf Sx n).reverse.map encStr) := Any.slices_Reverse_string_cells Tryz.laysNm217 b off n c Sx w hbig hc hf
end Go.Proofs
