/-
  DERIVED: THE SHELF's CONTRACTS AT THIS DUMP, IN PLAIN WORDS (tools/lay-plain.mjs out of 'TryzShelf.lean', which tools/lay-shelf.mjs wrote): THE SAME DECLARATIONS UNDER THE SAME NAMES: 'import', 'namespace', 'open', 'def', 'theorem' AND NOTHING ELSE: no command of the shelf's: FOR A HAND-IN. Each laying: the table of numbers ('.._ren') and one theorem, a field a fact of the dump's own or the kernel's comparison; each contract: ONE APPLICATION.
-/
import Derived.Shelf.Strings.Builder1
import Derived.Shelf.Strings.Builder2
import Derived.Shelf.Strings.OnBuilder
import Derived.Shelf.Small.Bits
import Derived.Shelf.Small.Wraps
import Derived.Shelf.Strings.BuilderF
import Derived.Shelf.Strings.BuilderK
import Derived.Shelf.Strings.Builder2Cap
import Derived.Shelf.Strconv.Itoa0
import Derived.Shelf.Strconv.Itoa1
import Derived.Shelf.LaysM
import Derived.Shelf.Strconv.Itoa2
import Derived.Shelf.Strconv.Itoa3
import Derived.Shelf.Strings.Prefix
import Derived.Shelf.Bits.Mul64
import Derived.Shelf.Strings.Repeat
import Derived.Shelf.Strings.BuilderCap
import Derived.Ground.Names2Prog
import Derived.Shelf.Slices.ReverseS
import Derived.Shelf.Slices.SearchI
import Derived.Shelf.Slices.Cells
import Derived.Test.YtknffgdbdadpcaaGreatDoorProg
namespace Go.Proofs
open Go.Shelf
def Tryz.lays156_ren : Go.Shelf.Ren := ⟨fun | 156 => 108 | 165 => 144 | 166 => 145 | 169 => 147 | 240 => 181 | 241 => 182 | 276 => 206 | 277 => 207 | n => n, fun | 31 => 137 | 9 => 9 | 3 => 3 | 4 => 4 | 0 => 0 | 20 => 20 | 72 => 182 | 76 => 186 | 70 => 180 | 37 => 109 | 75 => 185 | 127 => 216 | 164 => 232 | 5 => 5 | 80 => 189 | n => n, fun | n => n⟩
theorem Tryz.lays156 : Go.Proofs.Lays.n156 Tryz.prog Tryz.lays156_ren := {
 mixed := by kernel_rfl
 f156 := Tryz.func108.trans (congrArg some (by kernel_rfl))
 f165 := Tryz.func144.trans (congrArg some (by kernel_rfl))
 f166 := Tryz.func145.trans (congrArg some (by kernel_rfl))
 f169 := Tryz.func147.trans (congrArg some (by kernel_rfl))
 f240 := Tryz.func181.trans (congrArg some (by kernel_rfl))
 f241 := Tryz.func182.trans (congrArg some (by kernel_rfl))
 f276 := Tryz.func206.trans (congrArg some (by kernel_rfl))
 f277 := Tryz.func207.trans (congrArg some (by kernel_rfl))
 t0 := Tryz.underlying0
 a0 := Tryz.isAgg0
 z0 := Tryz.sizeOf0
 v0 := Tryz.zeroValue0
 t3 := Tryz.underlying3
 a3 := Tryz.isAgg3
 z3 := Tryz.sizeOf3
 v3 := Tryz.zeroValue3
 t4 := Tryz.underlying4
 a4 := Tryz.isAgg4
 z4 := Tryz.sizeOf4
 v4 := Tryz.zeroValue4
 t9 := Tryz.underlying9
 a9 := Tryz.isAgg9
 z9 := Tryz.sizeOf9
 v9 := Tryz.zeroValue9
 t20 := Tryz.underlying20
 a20 := Tryz.isAgg20
 z20 := Tryz.sizeOf20
 v20 := Tryz.zeroValue20
 t31 := Tryz.underlying137
 a31 := Tryz.isAgg137
 z31 := Tryz.sizeOf137
 v31 := Tryz.zeroValue137
 t37 := Tryz.underlying109
 a37 := Tryz.isAgg109
 z37 := Tryz.sizeOf109
 v37 := Tryz.zeroValue109
 t70 := Tryz.underlying180
 a70 := Tryz.isAgg180
 z70 := Tryz.sizeOf180
 v70 := Tryz.zeroValue180
 t72 := Tryz.underlying182
 a72 := Tryz.isAgg182
 z72 := Tryz.sizeOf182
 v72 := Tryz.zeroValue182
 t75 := Tryz.underlying185
 a75 := Tryz.isAgg185
 z75 := Tryz.sizeOf185
 v75 := Tryz.zeroValue185
 t76 := Tryz.underlying186
 a76 := Tryz.isAgg186
 z76 := Tryz.sizeOf186
 v76 := Tryz.zeroValue186
 t127 := Tryz.underlying216
 a127 := Tryz.isAgg216
 z127 := Tryz.sizeOf216
 v127 := Tryz.zeroValue216
 t164 := Tryz.underlying232
 a164 := Tryz.isAgg232
 z164 := Tryz.sizeOf232
 v164 := Tryz.zeroValue232 }
theorem Tryz.Builder_Extra_156 : Builder.Extra Tryz.prog Tryz.lays156_ren := {
 sizeBuilder := by kernel_rfl
 liesBuilder := by kernel_rfl
 t5 := Tryz.underlying5
 a5 := Tryz.isAgg5
 z5 := Tryz.sizeOf5
 v5 := Tryz.zeroValue5
 infoByte := by kernel_rfl
 cellsByte := by kernel_rfl
 sizeByte := by kernel_rfl
 neB5 := by decide }
open Go.RowKit in
/-- strings.Join: "Join concatenates the elements of its first argument to create a single string. The separator string sep is placed between elements in the resulting string.": HOWEVER MANY ELEMENTS. Below the heap's end the world is as it was. (LAID: no walk: one application.) -/
theorem Tryz.strings_Join (bk o c : Nat) (xs : List ByteArray) (sep : ByteArray) (w : World) (hcells : ∀ (j : Nat) x, xs[j]? = some x → w.cell? ⟨bk, o + j, none⟩ = some (.string x)) (hbk : bk < w.heap.size) (hN : xs.length ≤ 140737488355328) (hcap : xs.length ≤ c) (hlen : (Lib.join (xs.map (·.data.toList)) sep.data.toList).length ≤ 140737488355328) :
    Calls Tryz.prog 108 #[.slice (some ⟨bk, o, none⟩) xs.length c, .string sep] w fun e w' => e = .returned (.string ⟨(Lib.join (xs.map (·.data.toList)) sep.data.toList).toArray⟩) ∧ Below w.heap.size w w' := Any.strings_Join Tryz.lays156 Tryz.Builder_Extra_156 bk o c xs sep w hcells hbk hN hcap hlen
def Tryz.lays128_ren : Go.Shelf.Ren := ⟨fun | 128 => 208 | n => n, fun | 51 => 100 | 3 => 3 | 4 => 4 | 46 => 101 | 5 => 5 | 9 => 9 | n => n, fun | n => n⟩
theorem Tryz.lays128 : Go.Proofs.Lays.n128 Tryz.prog Tryz.lays128_ren := {
 mixed := by kernel_rfl
 f128 := Tryz.func208.trans (congrArg some (by kernel_rfl))
 t3 := Tryz.underlying3
 a3 := Tryz.isAgg3
 z3 := Tryz.sizeOf3
 v3 := Tryz.zeroValue3
 t4 := Tryz.underlying4
 a4 := Tryz.isAgg4
 z4 := Tryz.sizeOf4
 v4 := Tryz.zeroValue4
 t5 := Tryz.underlying5
 a5 := Tryz.isAgg5
 z5 := Tryz.sizeOf5
 v5 := Tryz.zeroValue5
 t9 := Tryz.underlying9
 a9 := Tryz.isAgg9
 z9 := Tryz.sizeOf9
 v9 := Tryz.zeroValue9
 t46 := Tryz.underlying101
 a46 := Tryz.isAgg101
 z46 := Tryz.sizeOf101
 v46 := Tryz.zeroValue101
 t51 := Tryz.underlying100
 a51 := Tryz.isAgg100
 z51 := Tryz.sizeOf100
 v51 := Tryz.zeroValue100 }
/-- bits.Len32: "Len32 returns the minimum number of bits required to represent x; the result is 0 for x == 0.": IT RETURNS 'Lib.bitLen x'; the world is as it was. ('h0', 'h1': x is a uint32.) (LAID: no walk: one application.) -/
theorem Tryz.bits_Len32 (x : Int) (w : World) (h0 : 0 ≤ x) (h1 : x ≤ 4294967295) :
    Calls Tryz.prog 208 #[.int .u32 x] w fun e w' => e = .returned (.int .i64 (Lib.bitLen x.toNat)) ∧ w' = w := Any.bits_Len32 Tryz.lays128 x w h0 h1
def Tryz.lays133_ren : Go.Shelf.Ren := ⟨fun | 133 => 184 | 128 => 208 | n => n, fun | 51 => 100 | 3 => 3 | 4 => 4 | 46 => 101 | 5 => 5 | 9 => 9 | n => n, fun | n => n⟩
theorem Tryz.lays133 : Go.Proofs.Lays.n133 Tryz.prog Tryz.lays133_ren := {
 mixed := by kernel_rfl
 f128 := Tryz.func208.trans (congrArg some (by kernel_rfl))
 f133 := Tryz.func184.trans (congrArg some (by kernel_rfl))
 t3 := Tryz.underlying3
 a3 := Tryz.isAgg3
 z3 := Tryz.sizeOf3
 v3 := Tryz.zeroValue3
 t4 := Tryz.underlying4
 a4 := Tryz.isAgg4
 z4 := Tryz.sizeOf4
 v4 := Tryz.zeroValue4
 t5 := Tryz.underlying5
 a5 := Tryz.isAgg5
 z5 := Tryz.sizeOf5
 v5 := Tryz.zeroValue5
 t9 := Tryz.underlying9
 a9 := Tryz.isAgg9
 z9 := Tryz.sizeOf9
 v9 := Tryz.zeroValue9
 t46 := Tryz.underlying101
 a46 := Tryz.isAgg101
 z46 := Tryz.sizeOf101
 v46 := Tryz.zeroValue101
 t51 := Tryz.underlying100
 a51 := Tryz.isAgg100
 z51 := Tryz.sizeOf100
 v51 := Tryz.zeroValue100 }
/-- bits.LeadingZeros32: "LeadingZeros32 returns the number of leading zero bits in x; the result is 32 for x == 0.": IT RETURNS '32 - Lib.bitLen x'; the world is as it was. ITS CALLEE bits.Len32 IS MET BY ITS OWN CONTRACT OFF THE SHELF (lay that first): entered in place it sends the kernel out of memory. (LAID: no walk: one application.) -/
theorem Tryz.bits_LeadingZeros32 (x : Int) (w : World) (h0 : 0 ≤ x) (h1 : x ≤ 4294967295) :
    Calls Tryz.prog 184 #[.int .u32 x] w fun e w' => e = .returned (.int .i64 (32 - (Lib.bitLen x.toNat : Int))) ∧ w' = w := Any.bits_LeadingZeros32 Tryz.lays133 x w h0 h1
def Tryz.laysM171_ren : Go.Shelf.Ren := ⟨fun | 171 => 105 | 243 => 141 | 246 => 177 | 283 => 202 | 284 => 203 | 285 => 204 | 286 => 205 | 129 => 214 | 317 => 213 | 318 => 215 | 319 => 216 | 320 => 217 | 337 => 220 | 338 => 172 | n => n, fun | 3 => 3 | 9 => 9 | 2 => 2 | 4 => 4 | 171 => 228 | 0 => 0 | 53 => 99 | 37 => 109 | 5 => 5 | 173 => 230 | 212 => 242 | 51 => 100 | 20 => 20 | 213 => 243 | 46 => 101 | 232 => 246 | 233 => 222 | n => n, fun | 17 => 4 | 18 => 6 | 19 => 2 | n => n⟩
theorem Tryz.laysM171 : Go.Proofs.LaysM.n171 Tryz.prog Tryz.laysM171_ren := {
 mixed := by kernel_rfl
 f129 := Tryz.func214.trans (congrArg some (by kernel_rfl))
 f171 := Tryz.func105.trans (congrArg some (by kernel_rfl))
 f243 := Tryz.func141.trans (congrArg some (by kernel_rfl))
 f246 := Tryz.func177.trans (congrArg some (by kernel_rfl))
 f283 := Tryz.func202.trans (congrArg some (by kernel_rfl))
 f284 := Tryz.func203.trans (congrArg some (by kernel_rfl))
 f285 := Tryz.func204.trans (congrArg some (by kernel_rfl))
 f286 := Tryz.func205.trans (congrArg some (by kernel_rfl))
 f317 := Tryz.func213.trans (congrArg some (by kernel_rfl))
 f318 := Tryz.func215.trans (congrArg some (by kernel_rfl))
 f319 := Tryz.func216.trans (congrArg some (by kernel_rfl))
 f320 := Tryz.func217.trans (congrArg some (by kernel_rfl))
 f337 := Tryz.func220.trans (congrArg some (by kernel_rfl))
 f338 := Tryz.func172.trans (congrArg some (by kernel_rfl))
 t0 := Tryz.underlying0
 a0 := Tryz.isAgg0
 z0 := Tryz.sizeOf0
 v0 := Tryz.zeroValue0
 t2 := Tryz.underlying2
 a2 := Tryz.isAgg2
 z2 := Tryz.sizeOf2
 v2 := Tryz.zeroValue2
 t3 := Tryz.underlying3
 a3 := Tryz.isAgg3
 z3 := Tryz.sizeOf3
 v3 := Tryz.zeroValue3
 t4 := Tryz.underlying4
 a4 := Tryz.isAgg4
 z4 := Tryz.sizeOf4
 v4 := Tryz.zeroValue4
 t5 := Tryz.underlying5
 a5 := Tryz.isAgg5
 z5 := Tryz.sizeOf5
 v5 := Tryz.zeroValue5
 t9 := Tryz.underlying9
 a9 := Tryz.isAgg9
 z9 := Tryz.sizeOf9
 v9 := Tryz.zeroValue9
 t20 := Tryz.underlying20
 a20 := Tryz.isAgg20
 z20 := Tryz.sizeOf20
 v20 := Tryz.zeroValue20
 t37 := Tryz.underlying109
 a37 := Tryz.isAgg109
 z37 := Tryz.sizeOf109
 v37 := Tryz.zeroValue109
 t46 := Tryz.underlying101
 a46 := Tryz.isAgg101
 z46 := Tryz.sizeOf101
 v46 := Tryz.zeroValue101
 t51 := Tryz.underlying100
 a51 := Tryz.isAgg100
 z51 := Tryz.sizeOf100
 v51 := Tryz.zeroValue100
 t53 := Tryz.underlying99
 a53 := Tryz.isAgg99
 z53 := Tryz.sizeOf99
 v53 := Tryz.zeroValue99
 t171 := Tryz.underlying228
 a171 := Tryz.isAgg228
 z171 := Tryz.sizeOf228
 v171 := Tryz.zeroValue228
 t173 := Tryz.underlying230
 a173 := Tryz.isAgg230
 z173 := Tryz.sizeOf230
 v173 := Tryz.zeroValue230
 t212 := Tryz.underlying242
 a212 := Tryz.isAgg242
 z212 := Tryz.sizeOf242
 v212 := Tryz.zeroValue242
 t213 := Tryz.underlying243
 a213 := Tryz.isAgg243
 z213 := Tryz.sizeOf243
 t232 := Tryz.underlying246
 a232 := Tryz.isAgg246
 z232 := Tryz.sizeOf246
 v232 := Tryz.zeroValue246
 t233 := Tryz.underlying222
 a233 := Tryz.isAgg222
 z233 := Tryz.sizeOf222
 v233 := Tryz.zeroValue222
 g17 := by kernel_rfl
 g18 := by kernel_rfl
 g19 := by kernel_rfl
 i0 := by kernel_rfl
 i2 := by kernel_rfl
 i3 := by kernel_rfl
 i4 := by kernel_rfl
 i5 := by kernel_rfl
 i9 := by kernel_rfl
 i20 := by kernel_rfl
 i37 := by kernel_rfl
 i46 := by kernel_rfl
 i51 := by kernel_rfl
 i53 := by kernel_rfl
 i171 := by kernel_rfl
 i173 := by kernel_rfl
 i212 := by kernel_rfl
 i232 := by kernel_rfl
 i233 := by kernel_rfl
 m17 := by kernel_rfl
 m18 := by kernel_rfl
 m19 := by kernel_rfl }
open Go.RowKit Go.Sort Go.Lib in
/-- strconv.Itoa: "Itoa is equivalent to FormatInt(int64(i), 10).": i's DECIMAL NUMERAL ('Lib.itoa': a '-' where i is negative, then the digits), FOR EVERY int. The world behind the call: the world before it, new blocks behind the heap (the library's 'var a [24]byte'), draws. (LAID: no walk: one application.) -/
theorem Tryz.strconv_Itoa (n : Int) (h0 : -9223372036854775808 ≤ n) (h1 : n ≤ 9223372036854775807) (w : World) (htab : Lib.TabIs Tryz.prog w "internal/strconv.uint64pow10" .u64 Lib.pow10Tab) :
    Calls Tryz.prog 105 #[.int .i64 n] w fun e w' => e = .returned (.string ⟨(Lib.itoa n).toArray⟩) ∧ ∃ k os, w' = grow (w.drewN k) os := Any.strconv_Itoa Tryz.laysM171 n h0 h1 w htab
def Tryz.lays264_ren : Go.Shelf.Ren := ⟨fun | 264 => 179 | n => n, fun | 53 => 99 | 46 => 101 | n => n, fun | n => n⟩
theorem Tryz.lays264 : Go.Proofs.Lays.n264 Tryz.prog Tryz.lays264_ren := {
 mixed := by kernel_rfl
 f264 := Tryz.func179.trans (congrArg some (by kernel_rfl))
 t46 := Tryz.underlying101
 a46 := Tryz.isAgg101
 z46 := Tryz.sizeOf101
 v46 := Tryz.zeroValue101
 t53 := Tryz.underlying99
 a53 := Tryz.isAgg99
 z53 := Tryz.sizeOf99
 v53 := Tryz.zeroValue99 }
open Go.RowKit Go.Lib in
theorem Tryz.bits_Mul64 (x y : Nat) (hx : x < 18446744073709551616) (hy : y < 18446744073709551616) (w : World) :
    Calls Tryz.prog 179 #[.int .u64 x, .int .u64 y] w fun e w' => e = .returned (.tuple #[.int .u64 ((x * y / 18446744073709551616 : Nat) : Int), .int .u64 ((x * y % 18446744073709551616 : Nat) : Int)]) ∧ w' = w := Any.bits_Mul64 Tryz.lays264 x y hx hy w
def Tryz.lays105_ren : Go.Shelf.Ren := ⟨fun | 105 => 106 | 212 => 142 | 99 => 143 | 165 => 144 | 166 => 145 | 170 => 146 | 169 => 147 | 263 => 178 | 264 => 179 | 206 => 180 | 240 => 181 | 241 => 182 | 276 => 206 | 277 => 207 | n => n, fun | 9 => 9 | 3 => 3 | 4 => 4 | 20 => 20 | 0 => 0 | 46 => 101 | 109 => 177 | 5 => 5 | 72 => 182 | 76 => 186 | 51 => 100 | 146 => 175 | 53 => 99 | 148 => 214 | 70 => 180 | 37 => 109 | 75 => 185 | 127 => 216 | 164 => 232 | 80 => 189 | n => n, fun | n => n⟩
theorem Tryz.lays105 : Go.Proofs.Lays.n105 Tryz.prog Tryz.lays105_ren := {
 mixed := by kernel_rfl
 f99 := Tryz.func143.trans (congrArg some (by kernel_rfl))
 f105 := Tryz.func106.trans (congrArg some (by kernel_rfl))
 f165 := Tryz.func144.trans (congrArg some (by kernel_rfl))
 f166 := Tryz.func145.trans (congrArg some (by kernel_rfl))
 f169 := Tryz.func147.trans (congrArg some (by kernel_rfl))
 f170 := Tryz.func146.trans (congrArg some (by kernel_rfl))
 f206 := Tryz.func180.trans (congrArg some (by kernel_rfl))
 f212 := Tryz.func142.trans (congrArg some (by kernel_rfl))
 f240 := Tryz.func181.trans (congrArg some (by kernel_rfl))
 f241 := Tryz.func182.trans (congrArg some (by kernel_rfl))
 f263 := Tryz.func178.trans (congrArg some (by kernel_rfl))
 f264 := Tryz.func179.trans (congrArg some (by kernel_rfl))
 f276 := Tryz.func206.trans (congrArg some (by kernel_rfl))
 f277 := Tryz.func207.trans (congrArg some (by kernel_rfl))
 t0 := Tryz.underlying0
 a0 := Tryz.isAgg0
 z0 := Tryz.sizeOf0
 v0 := Tryz.zeroValue0
 t3 := Tryz.underlying3
 a3 := Tryz.isAgg3
 z3 := Tryz.sizeOf3
 v3 := Tryz.zeroValue3
 t4 := Tryz.underlying4
 a4 := Tryz.isAgg4
 z4 := Tryz.sizeOf4
 v4 := Tryz.zeroValue4
 t5 := Tryz.underlying5
 a5 := Tryz.isAgg5
 z5 := Tryz.sizeOf5
 v5 := Tryz.zeroValue5
 t9 := Tryz.underlying9
 a9 := Tryz.isAgg9
 z9 := Tryz.sizeOf9
 v9 := Tryz.zeroValue9
 t20 := Tryz.underlying20
 a20 := Tryz.isAgg20
 z20 := Tryz.sizeOf20
 v20 := Tryz.zeroValue20
 t37 := Tryz.underlying109
 a37 := Tryz.isAgg109
 z37 := Tryz.sizeOf109
 v37 := Tryz.zeroValue109
 t46 := Tryz.underlying101
 a46 := Tryz.isAgg101
 z46 := Tryz.sizeOf101
 v46 := Tryz.zeroValue101
 t51 := Tryz.underlying100
 a51 := Tryz.isAgg100
 z51 := Tryz.sizeOf100
 v51 := Tryz.zeroValue100
 t53 := Tryz.underlying99
 a53 := Tryz.isAgg99
 z53 := Tryz.sizeOf99
 v53 := Tryz.zeroValue99
 t70 := Tryz.underlying180
 a70 := Tryz.isAgg180
 z70 := Tryz.sizeOf180
 v70 := Tryz.zeroValue180
 t72 := Tryz.underlying182
 a72 := Tryz.isAgg182
 z72 := Tryz.sizeOf182
 v72 := Tryz.zeroValue182
 t75 := Tryz.underlying185
 a75 := Tryz.isAgg185
 z75 := Tryz.sizeOf185
 v75 := Tryz.zeroValue185
 t76 := Tryz.underlying186
 a76 := Tryz.isAgg186
 z76 := Tryz.sizeOf186
 v76 := Tryz.zeroValue186
 t109 := Tryz.underlying177
 a109 := Tryz.isAgg177
 z109 := Tryz.sizeOf177
 v109 := Tryz.zeroValue177
 t127 := Tryz.underlying216
 a127 := Tryz.isAgg216
 z127 := Tryz.sizeOf216
 v127 := Tryz.zeroValue216
 t146 := Tryz.underlying175
 a146 := Tryz.isAgg175
 z146 := Tryz.sizeOf175
 v146 := Tryz.zeroValue175
 t148 := Tryz.underlying214
 a148 := Tryz.isAgg214
 z148 := Tryz.sizeOf214
 v148 := Tryz.zeroValue214
 t164 := Tryz.underlying232
 a164 := Tryz.isAgg232
 z164 := Tryz.sizeOf232
 v164 := Tryz.zeroValue232 }
theorem Tryz.Builder_Extra_105 : Builder.Extra Tryz.prog Tryz.lays105_ren := {
 sizeBuilder := by kernel_rfl
 liesBuilder := by kernel_rfl
 t5 := Tryz.underlying5
 a5 := Tryz.isAgg5
 z5 := Tryz.sizeOf5
 v5 := Tryz.zeroValue5
 infoByte := by kernel_rfl
 cellsByte := by kernel_rfl
 sizeByte := by kernel_rfl
 neB5 := by decide }
open Go.RowKit Go.Lib in
/-- **strings.Repeat: count ≥ 0, the result within one allocation: count copies of s.** (LAID: no walk: one application.) -/
theorem Tryz.strings_Repeat (s : ByteArray) (c : Nat) (w : World) (hc : c ≤ 9223372036854775807) (hlen : s.size * c ≤ 140737488355328) :
    Calls Tryz.prog 106 #[.string s, .int .i64 c] w fun e w' => e = .returned (.string ⟨(Lib.repeatL s.data.toList c).toArray⟩) ∧ Below w.heap.size w w' := Any.strings_Repeat Tryz.lays105 Tryz.Builder_Extra_105 s c w hc hlen
def Tryz.laysNm217_ren : Go.Shelf.Ren := ⟨fun | 17 => 107 | n => n, fun | 24 => 137 | 9 => 9 | 3 => 3 | 4 => 4 | 0 => 0 | n => n, fun | n => n⟩
theorem Tryz.laysNm217 : Go.Proofs.Lays2.n17 Tryz.prog Tryz.laysNm217_ren := {
 mixed := by kernel_rfl
 f17 := Tryz.func107.trans (congrArg some (by kernel_rfl))
 t0 := Tryz.underlying0
 a0 := Tryz.isAgg0
 z0 := Tryz.sizeOf0
 v0 := Tryz.zeroValue0
 t3 := Tryz.underlying3
 a3 := Tryz.isAgg3
 z3 := Tryz.sizeOf3
 v3 := Tryz.zeroValue3
 t4 := Tryz.underlying4
 a4 := Tryz.isAgg4
 z4 := Tryz.sizeOf4
 v4 := Tryz.zeroValue4
 t9 := Tryz.underlying9
 a9 := Tryz.isAgg9
 z9 := Tryz.sizeOf9
 v9 := Tryz.zeroValue9
 t24 := Tryz.underlying137
 a24 := Tryz.isAgg137
 z24 := Tryz.sizeOf137
 v24 := Tryz.zeroValue137 }
open Go.RowKit Go.Lib Go.Sort in
/-- slices.Reverse at []string, of an argument. (LAID: no walk: one application.) -/
theorem Tryz.slices_Reverse_string_cells (b off n c : Nat) (Sx : Nat → ByteArray) (w : World) (hbig : n ≤ 9223372036854775807) (hc : ∀ i, i < n → w.cell? ⟨b, off + i, none⟩ = some (.string (Sx i))) (hf : ∀ j, j < n → w.frozen? ⟨b, off + j, none⟩ = false) :
    Calls Tryz.prog 107 #[.slice (some ⟨b, off, none⟩) n c] w fun e w' => e = .returned (.tuple #[]) ∧ ∃ q, w' = (w.drewN q).setCells b off ((Lib.strsOf Sx n).reverse.map encStr) := Any.slices_Reverse_string_cells Tryz.laysNm217 b off n c Sx w hbig hc hf
end Go.Proofs
