/-
  DERIVED: THE SHELF's CONTRACTS AT THIS DUMP, IN PLAIN WORDS (tools/lay-plain.mjs out of 'TryzShelf.lean', which tools/lay-shelf.mjs wrote): THE SAME DECLARATIONS UNDER THE SAME NAMES: 'import', 'namespace', 'open', 'def', 'theorem' AND NOTHING ELSE: no command of the shelf's: FOR A HAND-IN. Each laying: the table of numbers ('.._ren') and one theorem, a field a fact of the dump's own or the kernel's comparison; each contract: ONE APPLICATION.
  A natural divided by a word, and the bits of a natural, in package integer. At most 2^30 words. Plain laws on long division, digit by digit: the guess of a digit from the first digits is right or one too great. No program.
-/
import Derived.Shelf.Strings.Builder1
import Derived.Shelf.Strings.Builder2
import Derived.Shelf.Strings.OnBuilder
import Derived.Shelf.Small.Bits
import Derived.Shelf.Small.Wraps
import Derived.Shelf.Strings.BuilderF
import Derived.Shelf.Strings.BuilderK
import Derived.Shelf.Strings.Builder2Cap
import Derived.Shelf.Strconv.Itoa0
import Derived.Shelf.Strconv.Itoa1
import Derived.Shelf.LaysM
import Derived.Shelf.Strconv.Itoa2
import Derived.Shelf.Strconv.Itoa3
import Derived.Shelf.Strings.Prefix
import Derived.Shelf.Bits.Mul64
import Derived.Shelf.Strings.Repeat
import Derived.Shelf.Strings.BuilderCap
import Derived.Ground.Names2Prog
import Derived.Shelf.Slices.ReverseS
import Derived.Shelf.Slices.SearchI
import Derived.Shelf.Slices.Cells
import Derived.Test.YtknffgdbdadpcaaGreatDoorProg
import Derived.Test.YtknffgdbdadpcaaGreatDoorAdd
namespace Go.Proofs
open Go.Shelf
def Tryz.lays156_ren:Go.Shelf.Ren:=⟨fun|156=>108|165=>144|166=>145|169=>147|240=>181|241=>182|276=>206|277=>207|n=>n,fun|31=>137|9=>9|3=>3|4=>4|0=>0|20=>20|72=>182|76=>186|70=>180|37=>109|75=>185|127=>216|164=>232|5=>5|80=>189|n=>n,fun|n=>n⟩
theorem Tryz.lays156:Go.Proofs.Lays.n156 Tryz.prog Tryz.lays156_ren:= {
 mixed:=by kernel_rfl
 f156:=Tryz.func108.trans (congrArg some (by kernel_rfl))
 f165:=Tryz.func144.trans (congrArg some (by kernel_rfl))
 f166:=Tryz.func145.trans (congrArg some (by kernel_rfl))
 f169:=Tryz.func147.trans (congrArg some (by kernel_rfl))
 f240:=Tryz.func181.trans (congrArg some (by kernel_rfl))
 f241:=Tryz.func182.trans (congrArg some (by kernel_rfl))
 f276:=Tryz.func206.trans (congrArg some (by kernel_rfl))
 f277:=Tryz.func207.trans (congrArg some (by kernel_rfl))
 t0:=Tryz.underlying0
 a0:=Tryz.isAgg0
 z0:=Tryz.sizeOf0
 v0:=Tryz.zeroValue0
 t3:=Tryz.underlying3
 a3:=Tryz.isAgg3
 z3:=Tryz.sizeOf3
 v3:=Tryz.zeroValue3
 t4:=Tryz.underlying4
 a4:=Tryz.isAgg4
 z4:=Tryz.sizeOf4
 v4:=Tryz.zeroValue4
 t9:=Tryz.underlying9
 a9:=Tryz.isAgg9
 z9:=Tryz.sizeOf9
 v9:=Tryz.zeroValue9
 t20:=Tryz.underlying20
 a20:=Tryz.isAgg20
 z20:=Tryz.sizeOf20
 v20:=Tryz.zeroValue20
 t31:=Tryz.underlying137
 a31:=Tryz.isAgg137
 z31:=Tryz.sizeOf137
 v31:=Tryz.zeroValue137
 t37:=Tryz.underlying109
 a37:=Tryz.isAgg109
 z37:=Tryz.sizeOf109
 v37:=Tryz.zeroValue109
 t70:=Tryz.underlying180
 a70:=Tryz.isAgg180
 z70:=Tryz.sizeOf180
 v70:=Tryz.zeroValue180
 t72:=Tryz.underlying182
 a72:=Tryz.isAgg182
 z72:=Tryz.sizeOf182
 v72:=Tryz.zeroValue182
 t75:=Tryz.underlying185
 a75:=Tryz.isAgg185
 z75:=Tryz.sizeOf185
 v75:=Tryz.zeroValue185
 t76:=Tryz.underlying186
 a76:=Tryz.isAgg186
 z76:=Tryz.sizeOf186
 v76:=Tryz.zeroValue186
 t127:=Tryz.underlying216
 a127:=Tryz.isAgg216
 z127:=Tryz.sizeOf216
 v127:=Tryz.zeroValue216
 t164:=Tryz.underlying232
 a164:=Tryz.isAgg232
 z164:=Tryz.sizeOf232
 v164:=Tryz.zeroValue232}
theorem Tryz.Builder_Extra_156:Builder.Extra Tryz.prog Tryz.lays156_ren:= {
 sizeBuilder:=by kernel_rfl
 liesBuilder:=by kernel_rfl
 t5:=Tryz.underlying5
 a5:=Tryz.isAgg5
 z5:=Tryz.sizeOf5
 v5:=Tryz.zeroValue5
 infoByte:=by kernel_rfl
 cellsByte:=by kernel_rfl
 sizeByte:=by kernel_rfl
 neB5:=by decide}
open Go.RowKit in
theorem Tryz.strings_Join(bk o c:Nat)(xs:List ByteArray)(sep:ByteArray)(w:World)(hcells:∀(j:Nat) x,xs[j]? =some x->w.cell? ⟨bk,o+j,none⟩=some (.string x))(hbk:bk<w.heap.size)(hN:xs.length<=140737488355328)(hcap:xs.length<=c)(hlen:(Lib.join (xs.map (·.data.toList)) sep.data.toList).length<=140737488355328):
    Calls Tryz.prog 108 #[.slice (some ⟨bk,o,none⟩) xs.length c,.string sep] w λe w'=>e=.returned (.string ⟨(Lib.join (xs.map (·.data.toList)) sep.data.toList).toArray⟩)/\Below w.heap.size w w':=Any.strings_Join Tryz.lays156 Tryz.Builder_Extra_156 bk o c xs sep w hcells hbk hN hcap hlen
def Tryz.lays128_ren:Go.Shelf.Ren:=⟨fun|128=>208|n=>n,fun|51=>100|3=>3|4=>4|46=>101|5=>5|9=>9|n=>n,fun|n=>n⟩
theorem Tryz.lays128:Go.Proofs.Lays.n128 Tryz.prog Tryz.lays128_ren:= {
 mixed:=by kernel_rfl
 f128:=Tryz.func208.trans (congrArg some (by kernel_rfl))
 t3:=Tryz.underlying3
 a3:=Tryz.isAgg3
 z3:=Tryz.sizeOf3
 v3:=Tryz.zeroValue3
 t4:=Tryz.underlying4
 a4:=Tryz.isAgg4
 z4:=Tryz.sizeOf4
 v4:=Tryz.zeroValue4
 t5:=Tryz.underlying5
 a5:=Tryz.isAgg5
 z5:=Tryz.sizeOf5
 v5:=Tryz.zeroValue5
 t9:=Tryz.underlying9
 a9:=Tryz.isAgg9
 z9:=Tryz.sizeOf9
 v9:=Tryz.zeroValue9
 t46:=Tryz.underlying101
 a46:=Tryz.isAgg101
 z46:=Tryz.sizeOf101
 v46:=Tryz.zeroValue101
 t51:=Tryz.underlying100
 a51:=Tryz.isAgg100
 z51:=Tryz.sizeOf100
 v51:=Tryz.zeroValue100}
theorem Tryz.bits_Len32(x:Int)(w:World)(h0:0<=x)(h1:x<=4294967295):
    Calls Tryz.prog 208 #[.int .u32 x] w λe w'=>e=.returned (.int .i64 (Lib.bitLen x.toNat))/\w'=w:=Any.bits_Len32 Tryz.lays128 x w h0 h1
def Tryz.lays133_ren:Go.Shelf.Ren:=⟨fun|133=>184|128=>208|n=>n,fun|51=>100|3=>3|4=>4|46=>101|5=>5|9=>9|n=>n,fun|n=>n⟩
theorem Tryz.lays133:Go.Proofs.Lays.n133 Tryz.prog Tryz.lays133_ren:= {
 mixed:=by kernel_rfl
 f128:=Tryz.func208.trans (congrArg some (by kernel_rfl))
 f133:=Tryz.func184.trans (congrArg some (by kernel_rfl))
 t3:=Tryz.underlying3
 a3:=Tryz.isAgg3
 z3:=Tryz.sizeOf3
 v3:=Tryz.zeroValue3
 t4:=Tryz.underlying4
 a4:=Tryz.isAgg4
 z4:=Tryz.sizeOf4
 v4:=Tryz.zeroValue4
 t5:=Tryz.underlying5
 a5:=Tryz.isAgg5
 z5:=Tryz.sizeOf5
 v5:=Tryz.zeroValue5
 t9:=Tryz.underlying9
 a9:=Tryz.isAgg9
 z9:=Tryz.sizeOf9
 v9:=Tryz.zeroValue9
 t46:=Tryz.underlying101
 a46:=Tryz.isAgg101
 z46:=Tryz.sizeOf101
 v46:=Tryz.zeroValue101
 t51:=Tryz.underlying100
 a51:=Tryz.isAgg100
 z51:=Tryz.sizeOf100
 v51:=Tryz.zeroValue100}
theorem Tryz.bits_LeadingZeros32(x:Int)(w:World)(h0:0<=x)(h1:x<=4294967295):
    Calls Tryz.prog 184 #[.int .u32 x] w λe w'=>e=.returned (.int .i64 (32-(Lib.bitLen x.toNat:Int)))/\w'=w:=Any.bits_LeadingZeros32 Tryz.lays133 x w h0 h1
def Tryz.lays134_ren:Go.Shelf.Ren:=⟨fun|134=>212|129=>214|n=>n,fun|53=>99|3=>3|4=>4|46=>101|5=>5|9=>9|n=>n,fun|n=>n⟩
theorem Tryz.lays134:Go.Proofs.Lays.n134 Tryz.prog Tryz.lays134_ren:= {
 mixed:=by kernel_rfl
 f129:=Tryz.func214.trans (congrArg some (by kernel_rfl))
 f134:=Tryz.func212.trans (congrArg some (by kernel_rfl))
 t3:=Tryz.underlying3
 a3:=Tryz.isAgg3
 z3:=Tryz.sizeOf3
 v3:=Tryz.zeroValue3
 t4:=Tryz.underlying4
 a4:=Tryz.isAgg4
 z4:=Tryz.sizeOf4
 v4:=Tryz.zeroValue4
 t5:=Tryz.underlying5
 a5:=Tryz.isAgg5
 z5:=Tryz.sizeOf5
 v5:=Tryz.zeroValue5
 t9:=Tryz.underlying9
 a9:=Tryz.isAgg9
 z9:=Tryz.sizeOf9
 v9:=Tryz.zeroValue9
 t46:=Tryz.underlying101
 a46:=Tryz.isAgg101
 z46:=Tryz.sizeOf101
 v46:=Tryz.zeroValue101
 t53:=Tryz.underlying99
 a53:=Tryz.isAgg99
 z53:=Tryz.sizeOf99
 v53:=Tryz.zeroValue99}
theorem Tryz.bits_LeadingZeros64(x:Int)(w:World)(h0:0<=x)(h1:x<=18446744073709551615):
    Calls Tryz.prog 212 #[.int .u64 x] w λe w'=>e=.returned (.int .i64 (64-(Lib.bitLen x.toNat:Int)))/\w'=w:=Any.bits_LeadingZeros64 Tryz.lays134 x w h0 h1
def Tryz.laysM171_ren:Go.Shelf.Ren:=⟨fun|171=>105|243=>141|246=>177|283=>202|284=>203|285=>204|286=>205|129=>214|317=>213|318=>215|319=>216|320=>217|337=>220|338=>172|n=>n,fun|3=>3|9=>9|2=>2|4=>4|171=>228|0=>0|53=>99|37=>109|5=>5|173=>230|212=>242|51=>100|20=>20|213=>243|46=>101|232=>246|233=>222|n=>n,fun|17=>4|18=>6|19=>2|n=>n⟩
theorem Tryz.laysM171:Go.Proofs.LaysM.n171 Tryz.prog Tryz.laysM171_ren:= {
 mixed:=by kernel_rfl
 f129:=Tryz.func214.trans (congrArg some (by kernel_rfl))
 f171:=Tryz.func105.trans (congrArg some (by kernel_rfl))
 f243:=Tryz.func141.trans (congrArg some (by kernel_rfl))
 f246:=Tryz.func177.trans (congrArg some (by kernel_rfl))
 f283:=Tryz.func202.trans (congrArg some (by kernel_rfl))
 f284:=Tryz.func203.trans (congrArg some (by kernel_rfl))
 f285:=Tryz.func204.trans (congrArg some (by kernel_rfl))
 f286:=Tryz.func205.trans (congrArg some (by kernel_rfl))
 f317:=Tryz.func213.trans (congrArg some (by kernel_rfl))
 f318:=Tryz.func215.trans (congrArg some (by kernel_rfl))
 f319:=Tryz.func216.trans (congrArg some (by kernel_rfl))
 f320:=Tryz.func217.trans (congrArg some (by kernel_rfl))
 f337:=Tryz.func220.trans (congrArg some (by kernel_rfl))
 f338:=Tryz.func172.trans (congrArg some (by kernel_rfl))
 t0:=Tryz.underlying0
 a0:=Tryz.isAgg0
 z0:=Tryz.sizeOf0
 v0:=Tryz.zeroValue0
 t2:=Tryz.underlying2
 a2:=Tryz.isAgg2
 z2:=Tryz.sizeOf2
 v2:=Tryz.zeroValue2
 t3:=Tryz.underlying3
 a3:=Tryz.isAgg3
 z3:=Tryz.sizeOf3
 v3:=Tryz.zeroValue3
 t4:=Tryz.underlying4
 a4:=Tryz.isAgg4
 z4:=Tryz.sizeOf4
 v4:=Tryz.zeroValue4
 t5:=Tryz.underlying5
 a5:=Tryz.isAgg5
 z5:=Tryz.sizeOf5
 v5:=Tryz.zeroValue5
 t9:=Tryz.underlying9
 a9:=Tryz.isAgg9
 z9:=Tryz.sizeOf9
 v9:=Tryz.zeroValue9
 t20:=Tryz.underlying20
 a20:=Tryz.isAgg20
 z20:=Tryz.sizeOf20
 v20:=Tryz.zeroValue20
 t37:=Tryz.underlying109
 a37:=Tryz.isAgg109
 z37:=Tryz.sizeOf109
 v37:=Tryz.zeroValue109
 t46:=Tryz.underlying101
 a46:=Tryz.isAgg101
 z46:=Tryz.sizeOf101
 v46:=Tryz.zeroValue101
 t51:=Tryz.underlying100
 a51:=Tryz.isAgg100
 z51:=Tryz.sizeOf100
 v51:=Tryz.zeroValue100
 t53:=Tryz.underlying99
 a53:=Tryz.isAgg99
 z53:=Tryz.sizeOf99
 v53:=Tryz.zeroValue99
 t171:=Tryz.underlying228
 a171:=Tryz.isAgg228
 z171:=Tryz.sizeOf228
 v171:=Tryz.zeroValue228
 t173:=Tryz.underlying230
 a173:=Tryz.isAgg230
 z173:=Tryz.sizeOf230
 v173:=Tryz.zeroValue230
 t212:=Tryz.underlying242
 a212:=Tryz.isAgg242
 z212:=Tryz.sizeOf242
 v212:=Tryz.zeroValue242
 t213:=Tryz.underlying243
 a213:=Tryz.isAgg243
 z213:=Tryz.sizeOf243
 t232:=Tryz.underlying246
 a232:=Tryz.isAgg246
 z232:=Tryz.sizeOf246
 v232:=Tryz.zeroValue246
 t233:=Tryz.underlying222
 a233:=Tryz.isAgg222
 z233:=Tryz.sizeOf222
 v233:=Tryz.zeroValue222
 g17:=by kernel_rfl
 g18:=by kernel_rfl
 g19:=by kernel_rfl
 i0:=by kernel_rfl
 i2:=by kernel_rfl
 i3:=by kernel_rfl
 i4:=by kernel_rfl
 i5:=by kernel_rfl
 i9:=by kernel_rfl
 i20:=by kernel_rfl
 i37:=by kernel_rfl
 i46:=by kernel_rfl
 i51:=by kernel_rfl
 i53:=by kernel_rfl
 i171:=by kernel_rfl
 i173:=by kernel_rfl
 i212:=by kernel_rfl
 i232:=by kernel_rfl
 i233:=by kernel_rfl
 m17:=by kernel_rfl
 m18:=by kernel_rfl
 m19:=by kernel_rfl}
open Go.RowKit Go.Sort Go.Lib in
theorem Tryz.strconv_Itoa(n:Int)(h0: -9223372036854775808<=n)(h1:n<=9223372036854775807)(w:World)(htab:Lib.TabIs Tryz.prog w "internal/strconv.uint64pow10" .u64 Lib.pow10Tab):
    Calls Tryz.prog 105 #[.int .i64 n] w λe w'=>e=.returned (.string ⟨(Lib.itoa n).toArray⟩)/\∃k os,w'=grow (w.drewN k) os:=Any.strconv_Itoa Tryz.laysM171 n h0 h1 w htab
def Tryz.lays264_ren:Go.Shelf.Ren:=⟨fun|264=>179|n=>n,fun|53=>99|46=>101|n=>n,fun|n=>n⟩
theorem Tryz.lays264:Go.Proofs.Lays.n264 Tryz.prog Tryz.lays264_ren:= {
 mixed:=by kernel_rfl
 f264:=Tryz.func179.trans (congrArg some (by kernel_rfl))
 t46:=Tryz.underlying101
 a46:=Tryz.isAgg101
 z46:=Tryz.sizeOf101
 v46:=Tryz.zeroValue101
 t53:=Tryz.underlying99
 a53:=Tryz.isAgg99
 z53:=Tryz.sizeOf99
 v53:=Tryz.zeroValue99}
open Go.RowKit Go.Lib in
theorem Tryz.bits_Mul64(x y:Nat)(hx:x<18446744073709551616)(hy:y<18446744073709551616)(w:World):
    Calls Tryz.prog 179 #[.int .u64 x,.int .u64 y] w λe w'=>e=.returned (.tuple #[.int .u64 ((x*y/18446744073709551616:Nat):Int),.int .u64 ((x*y%18446744073709551616:Nat):Int)])/\w'=w:=Any.bits_Mul64 Tryz.lays264 x y hx hy w
def Tryz.lays105_ren:Go.Shelf.Ren:=⟨fun|105=>106|212=>142|99=>143|165=>144|166=>145|170=>146|169=>147|263=>178|264=>179|206=>180|240=>181|241=>182|276=>206|277=>207|n=>n,fun|9=>9|3=>3|4=>4|20=>20|0=>0|46=>101|109=>177|5=>5|72=>182|76=>186|51=>100|146=>175|53=>99|148=>214|70=>180|37=>109|75=>185|127=>216|164=>232|80=>189|n=>n,fun|n=>n⟩
theorem Tryz.lays105:Go.Proofs.Lays.n105 Tryz.prog Tryz.lays105_ren:= {
 mixed:=by kernel_rfl
 f99:=Tryz.func143.trans (congrArg some (by kernel_rfl))
 f105:=Tryz.func106.trans (congrArg some (by kernel_rfl))
 f165:=Tryz.func144.trans (congrArg some (by kernel_rfl))
 f166:=Tryz.func145.trans (congrArg some (by kernel_rfl))
 f169:=Tryz.func147.trans (congrArg some (by kernel_rfl))
 f170:=Tryz.func146.trans (congrArg some (by kernel_rfl))
 f206:=Tryz.func180.trans (congrArg some (by kernel_rfl))
 f212:=Tryz.func142.trans (congrArg some (by kernel_rfl))
 f240:=Tryz.func181.trans (congrArg some (by kernel_rfl))
 f241:=Tryz.func182.trans (congrArg some (by kernel_rfl))
 f263:=Tryz.func178.trans (congrArg some (by kernel_rfl))
 f264:=Tryz.func179.trans (congrArg some (by kernel_rfl))
 f276:=Tryz.func206.trans (congrArg some (by kernel_rfl))
 f277:=Tryz.func207.trans (congrArg some (by kernel_rfl))
 t0:=Tryz.underlying0
 a0:=Tryz.isAgg0
 z0:=Tryz.sizeOf0
 v0:=Tryz.zeroValue0
 t3:=Tryz.underlying3
 a3:=Tryz.isAgg3
 z3:=Tryz.sizeOf3
 v3:=Tryz.zeroValue3
 t4:=Tryz.underlying4
 a4:=Tryz.isAgg4
 z4:=Tryz.sizeOf4
 v4:=Tryz.zeroValue4
 t5:=Tryz.underlying5
 a5:=Tryz.isAgg5
 z5:=Tryz.sizeOf5
 v5:=Tryz.zeroValue5
 t9:=Tryz.underlying9
 a9:=Tryz.isAgg9
 z9:=Tryz.sizeOf9
 v9:=Tryz.zeroValue9
 t20:=Tryz.underlying20
 a20:=Tryz.isAgg20
 z20:=Tryz.sizeOf20
 v20:=Tryz.zeroValue20
 t37:=Tryz.underlying109
 a37:=Tryz.isAgg109
 z37:=Tryz.sizeOf109
 v37:=Tryz.zeroValue109
 t46:=Tryz.underlying101
 a46:=Tryz.isAgg101
 z46:=Tryz.sizeOf101
 v46:=Tryz.zeroValue101
 t51:=Tryz.underlying100
 a51:=Tryz.isAgg100
 z51:=Tryz.sizeOf100
 v51:=Tryz.zeroValue100
 t53:=Tryz.underlying99
 a53:=Tryz.isAgg99
 z53:=Tryz.sizeOf99
 v53:=Tryz.zeroValue99
 t70:=Tryz.underlying180
 a70:=Tryz.isAgg180
 z70:=Tryz.sizeOf180
 v70:=Tryz.zeroValue180
 t72:=Tryz.underlying182
 a72:=Tryz.isAgg182
 z72:=Tryz.sizeOf182
 v72:=Tryz.zeroValue182
 t75:=Tryz.underlying185
 a75:=Tryz.isAgg185
 z75:=Tryz.sizeOf185
 v75:=Tryz.zeroValue185
 t76:=Tryz.underlying186
 a76:=Tryz.isAgg186
 z76:=Tryz.sizeOf186
 v76:=Tryz.zeroValue186
 t109:=Tryz.underlying177
 a109:=Tryz.isAgg177
 z109:=Tryz.sizeOf177
 v109:=Tryz.zeroValue177
 t127:=Tryz.underlying216
 a127:=Tryz.isAgg216
 z127:=Tryz.sizeOf216
 v127:=Tryz.zeroValue216
 t146:=Tryz.underlying175
 a146:=Tryz.isAgg175
 z146:=Tryz.sizeOf175
 v146:=Tryz.zeroValue175
 t148:=Tryz.underlying214
 a148:=Tryz.isAgg214
 z148:=Tryz.sizeOf214
 v148:=Tryz.zeroValue214
 t164:=Tryz.underlying232
 a164:=Tryz.isAgg232
 z164:=Tryz.sizeOf232
 v164:=Tryz.zeroValue232}
theorem Tryz.Builder_Extra_105:Builder.Extra Tryz.prog Tryz.lays105_ren:= {
 sizeBuilder:=by kernel_rfl
 liesBuilder:=by kernel_rfl
 t5:=Tryz.underlying5
 a5:=Tryz.isAgg5
 z5:=Tryz.sizeOf5
 v5:=Tryz.zeroValue5
 infoByte:=by kernel_rfl
 cellsByte:=by kernel_rfl
 sizeByte:=by kernel_rfl
 neB5:=by decide}
open Go.RowKit Go.Lib in
theorem Tryz.strings_Repeat(s:ByteArray)(c:Nat)(w:World)(hc:c<=9223372036854775807)(hlen:s.size*c<=140737488355328):
    Calls Tryz.prog 106 #[.string s,.int .i64 c] w λe w'=>e=.returned (.string ⟨(Lib.repeatL s.data.toList c).toArray⟩)/\Below w.heap.size w w':=Any.strings_Repeat Tryz.lays105 Tryz.Builder_Extra_105 s c w hc hlen
def Tryz.laysNm217_ren:Go.Shelf.Ren:=⟨fun|17=>107|n=>n,fun|24=>137|9=>9|3=>3|4=>4|0=>0|n=>n,fun|n=>n⟩
theorem Tryz.laysNm217:Go.Proofs.Lays2.n17 Tryz.prog Tryz.laysNm217_ren:= {
 mixed:=by kernel_rfl
 f17:=Tryz.func107.trans (congrArg some (by kernel_rfl))
 t0:=Tryz.underlying0
 a0:=Tryz.isAgg0
 z0:=Tryz.sizeOf0
 v0:=Tryz.zeroValue0
 t3:=Tryz.underlying3
 a3:=Tryz.isAgg3
 z3:=Tryz.sizeOf3
 v3:=Tryz.zeroValue3
 t4:=Tryz.underlying4
 a4:=Tryz.isAgg4
 z4:=Tryz.sizeOf4
 v4:=Tryz.zeroValue4
 t9:=Tryz.underlying9
 a9:=Tryz.isAgg9
 z9:=Tryz.sizeOf9
 v9:=Tryz.zeroValue9
 t24:=Tryz.underlying137
 a24:=Tryz.isAgg137
 z24:=Tryz.sizeOf137
 v24:=Tryz.zeroValue137}
open Go.RowKit Go.Lib Go.Sort in
theorem Tryz.slices_Reverse_string_cells(b off n c:Nat)(Sx:Nat->ByteArray)(w:World)(hbig:n<=9223372036854775807)(hc:∀i,i<n->w.cell? ⟨b,off+i,none⟩=some (.string (Sx i)))(hf:∀j,j<n->w.frozen? ⟨b,off+j,none⟩=false):
    Calls Tryz.prog 107 #[.slice (some ⟨b,off,none⟩) n c] w λe w'=>e=.returned (.tuple #[])/\∃q,w'=(w.drewN q).setCells b off ((Lib.strsOf Sx n).reverse.map encStr):=Any.slices_Reverse_string_cells Tryz.laysNm217 b off n c Sx w hbig hc hf
end Go.Proofs
namespace Go.Proofs.YtknffgdbdadpcaaGreatDoor
open Go Go.RowKit
set_option maxRecDepth 100000
set_option maxHeartbeats 1000000
def DivInv(w0:World)(g N d:Nat)(A:List Nat)(k r:Nat)(wr:World):Prop:=
  ∃ys,Own wr g ys/\ys.length=N/\(∀i,ys.getD i 0<4294967296)/\d*qF ys+r*4294967296^k+pv A k=qF A/\(∀i,i<k->ys.getD i 0=0)/\Ext w0 wr
theorem DivInv.start{w0 wr:World}{g n d:Nat}{A:List Nat}(h:Own wr g (List.replicate n 0))(he:Ext w0 wr)(hl:A.length=n):DivInv w0 g n d A n 0 wr:=
  ⟨_,h,by simp,λi=>by rw[qZ];omega,by rw[xU,qS A n (Nat.le_of_eq hl)];simp,λi _=>qZ _ _,he⟩
theorem DivInv.fin{w0 wr:World}{g N d r:Nat}{A:List Nat}(h:DivInv w0 g N d A 0 r wr)(hN:N<=140737488355328)(hr:r<d):
    (∃ys,Wd wr (some ⟨g,0,none⟩) N N ys/\qF ys=qF A/d)/\r=qF A%d/\Ext w0 wr:=by
  obtain⟨ys,h1,h2,h3,h4,h5,h7⟩:=h;have hw:=h1.wd h3 N (Nat.le_of_eq h2) hN;rw[h2]at hw;simp only[pv,Nat.pow_zero,Nat.mul_one,Nat.add_zero]at h4;refine⟨⟨ys,hw,?_⟩,?_,h7⟩
  ·rw[<-h4,Nat.mul_add_div (by omega),Nat.div_eq_of_lt hr,Nat.add_zero]
  ·rw[<-h4,Nat.mul_add_mod,Nat.mod_eq_of_lt hr]
theorem DivInv.step{w0 wr:World}{g N d k r:Nat}{A:List Nat}(h:DivInv w0 g N d A (k+1) r wr)(hk:k<N)(hg:w0.heap.size<=g)(hr:r<d)(hA:A.getD k 0<4294967296):
    Ext w0 wr/\g<wr.heap.size/\
      ∀ w2,Ext wr w2->(∃o:Nat,w2.cell? ⟨g,k,none⟩=some (.int .u32 o))/\w2.frozen? ⟨g,k,none⟩=false/\
        DivInv w0 g N d A k ((r*4294967296+A.getD k 0)%d) (w2.setCell ⟨g,k,none⟩ (.int .u32 (((r*4294967296+A.getD k 0)/d:Nat):Int))):=by
  obtain⟨ys,h1,h2,h3,h4,h5,h7⟩:=h;refine⟨h7,h1.lt,λw2 e2=>⟨⟨_,(h1.ext e2).cell _ zb⟩,(h1.ext e2).free _,?_⟩⟩;have hq:(r*4294967296+A.getD k 0)/d<4294967296:=Nat.div_lt_of_lt_mul (by have:=Nat.mul_le_mul_right 4294967296 (show r+1<=d from hr);omega);refine⟨_,(h1.ext e2).set _ _,by simpa using h2,λj=>?_,?_,λj hj=>?_,(h7.trans e2).set hg _⟩
  · rw[qN _ _ _ _ (by omega)];split
    ·exact hq
    ·exact h3 j
  · have e:=xQ ys k ((r*4294967296+A.getD k 0)/d) zb
    rw[h5 k (by omega),Nat.mul_zero,Nat.add_zero]at e;rw[e];have e3:=Nat.div_add_mod (r*4294967296+A.getD k 0) d;rw[pv]at h4;generalize(r*4294967296+A.getD k 0)/d=q at*;generalize(r*4294967296+A.getD k 0)%d=t at*;have e4:4294967296^k*(d*q+t)=4294967296^k*(r*4294967296+A.getD k 0):=by rw[e3]
    rw[Nat.pow_succ]at h4
    grind
  ·rw[qN _ _ _ _ (by omega),if_neg (by omega)];exact h5 j zb
def RDivW(w0:World)(k m r:Nat)(e:Ending)(w':World):Prop:=
  ∃ao n cap,e=.returned (.tuple #[.slice ao n cap,.int .u32 (r:Nat)])/\Ext w0 w'/\NatAt w' k ao n cap m
theorem divw_wd(w:World)(a1:Option Addr)(n1 c1 d:Nat)(A:List Nat)(h1:Wd w a1 n1 c1 A)(s1:n1<=1073741824)(hd0:0<d)(hd:d<4294967296):
    Calls Tryz.prog 104 #[.slice a1 n1 c1,.int .u32 d] w (RDivW w n1 (qF A/d) (qF A%d)):=by
  have HA:=hid h1.lt;have HlA:=hid h1.len;have HW1:=hid h1;have sh1:=h1.shape;clear h1;rcases sh1 with sh1| ⟨b1,off1,rfl,hb1⟩
  all_goals
    go_enter Tryz.func104,Tryz.ntmps104;go_wp2_with (at_make;refine jJ rfl _ _ _ rfl Tryz.underlying125 _ _ n1 rfl rfl zb zb zb ?_;intro w1 e1 z1 o1)
    have I0:=hid (DivInv.start (d:=d) o1 e1 HlA.out);clear o1 e1 z1
    go_loopw [7,8] (λr i wr=>∃z:Int,∃rr:Nat,-1<=z/\z<n1/\rr<d/\i=.int .i64 z/\r=.int .u32 rr/\Hid (DivInv w w.heap.size n1 d A (z+1).toNat rr wr)) (λ_ i _=>(intOf i+1).toNat)
    case atStart=>exact⟨(n1:Int)-1,0,by omega,by omega,hd0,rfl,rfl,by rw[show((n1:Int)-1+1).toNat=n1 from by omega];exact I0⟩
    case round=>
      clear I0;obtain⟨z,r,hz1,hz2,hr,rfl,rfl,hinv⟩:=hrel;by_cases hz0:0<=z
      · obtain⟨j,rfl⟩:=Int.eq_ofNat_of_zero_le hz0
        first
          | (exfalso;omega)
          | (have hinv':DivInv w w.heap.size n1 d A (j+1) r wr:=hinv.out
             obtain⟨hext,hgl,hst⟩:=hinv'.step zb (zL _) hr (HA.out j);have hcA:=(HW1.out.ext hext).cell j zb;have hxl:=HA.out j;have Hst:=hid hst;clear hst hinv hinv';generalize A.getD j 0=x at*;have hmod:=hid (zR (r*4294967296+x) hd0);go_wp2_with (go_at_call 140;refine(div32_c r x d hr hxl hd _).mono ?_;rintro e w2 ⟨rfl,he2⟩;obtain⟨⟨o,ho⟩,hf2,hst2⟩:=Hst.out w2 he2;have hst2:=hid hst2)
             go_roundw
             case rel=>exact⟨(j:Int)-1,_,by omega,by omega,hmod.out,rfl,rfl,by rw[show((j:Int)-1+1).toNat=j from by omega];exact hst2⟩
             case measure=>simp[intOf])
      · obtain rfl:z= -1:=by omega
        have hv:DivInv w w.heap.size n1 d A 0 r wr:=hinv.out;obtain⟨⟨zs,hz1,hz2⟩,hz4,hz3⟩:=hv.fin zb hr;have Hz2:=hid hz2;have Hz4:=hid hz4;clear hinv hv hz2 hz4;go_wp2_with (go_at_call 135;refine(trim_c _ _ _ _ _ hz1).mono ?_;rintro e w3 ⟨ao,n,cap,rfl,he,hn⟩)
        go_ret2
        exact⟨ao,n,cap,by rw[<-Hz4.out];rfl,hz3.trans he,Hz2.out▸hn⟩
theorem divw_c(w:World)(a1:Option Addr)(n1 c1 d k1 x:Nat)(h1:NatAt w k1 a1 n1 c1 x)(s1:k1<=1073741824)(hd0:0<d)(hd:d<4294967296):
    Calls Tryz.prog 104 #[.slice a1 n1 c1,.int .u32 d] w (RDivW w k1 (x/d) (x%d)):=by
  obtain⟨xs,h1,l1,_,rfl⟩:=h1;refine(divw_wd w a1 n1 c1 d xs h1 zb hd0 hd).mono ?_;rintro e w' ⟨ao,n,cap,he,hx,hn⟩;exact⟨ao,n,cap,he,hx,hn.mono zb⟩
def bitLen(m:Nat):Nat:=if m=0 then 0 else m.log2+1
theorem bitLen_eq(x k:Nat)(h1:2^k<=x)(h2:x<2^(k+1)):bitLen x=k+1:=by
  have hp:0<2^k:=Nat.pos_of_ne_zero zh;have h0:x≠0:=zb
  have a:=(Nat.le_log2 h0).2 h1;have b:=(Nat.log2_lt h0).2 h2;simp[bitLen,h0];omega
theorem xO(x:Nat)(h:x≠0):∃k,bitLen x=k+1/\2^k<=x/\x<2^(k+1):=
  ⟨x.log2,by simp[bitLen,h],(Nat.le_log2 h).1 (zL _),(Nat.log2_lt h).1 (Nat.lt_succ_self _)⟩
theorem lib_bitLen(x:Nat)(hx:x<4294967296):Lib.bitLen x=bitLen x/\bitLen x<=32:=by
  have e:Lib.bitLen x=bitLen x:=by
    rcases zI x with h|h
    ·subst h;rfl
    · obtain⟨a,b,c⟩:=Lib.bitLenAux_bounds 64 x zb zb
      obtain⟨k,hk⟩:∃k,Lib.bitLenAux 64 x=k+1:=⟨Lib.bitLenAux 64 x-1,by omega⟩;rw[hk]at b c;rw[bitLen_eq x k b c];exact hk
  exact⟨e,e▸Lib.bitLen_le x 32 zb hx⟩
theorem bitLen_natVal(xs:List Nat)(n:Nat)(hl:xs.length=n+1)(hx:∀i,xs.getD i 0<4294967296)(hz:xs.getD n 0≠0):bitLen (qF xs)=32*n+bitLen (xs.getD n 0):=by
  obtain⟨k,h1,h2,h3⟩:=xO _ hz;have e:=qS xs (n+1) (Nat.le_of_eq hl);have hp:=pv_lt xs hx n;rw[pv]at e;rw[h1,<-e,<-Nat.add_assoc];have eB:4294967296^n=2^(32*n):=by rw[Nat.pow_mul]
  have a1:4294967296^n*2^k<=4294967296^n*xs.getD n 0:=Nat.mul_le_mul_left _ h2;have a2:4294967296^n*(xs.getD n 0+1)<=4294967296^n*2^(k+1):=Nat.mul_le_mul_left _ h3;rw[Nat.mul_add,Nat.mul_one]at a2;apply bitLen_eq
  ·rw[Nat.pow_add,<-eB];omega
  ·rw[Nat.add_assoc,Nat.pow_add,<-eB];omega
theorem guess_ge(q V W Nu lo P x0 first v1 v2 V0:Nat)(hq:q*(V*W)<=Nu)(hN:Nu=lo+W*P*(x0+4294967296*first))(hlo:lo<W*P)(hx0:x0<4294967296)
    (hV:V=V0+P*(v2+4294967296*v1)):q*v1<=first:=by
  apply Nat.le_of_not_lt;intro h;have h1:W*P*(4294967296*(first+1))<=W*P*(4294967296*(q*v1)):=Nat.mul_le_mul_left _ zb;have h2:W*P*(x0+4294967296*first+1)<=W*P*(4294967296*(first+1)):=Nat.mul_le_mul_left _ zb;have h3:q*(V*W)=W*(q*V0)+W*P*(q*v2)+W*P*(4294967296*(q*v1)):=by subst hV;grind
  have h4:W*P*(x0+4294967296*first+1)=W*P*(x0+4294967296*first)+W*P:=by rw[Nat.mul_add,Nat.mul_one]
  generalize W*P*(4294967296*(q*v1))=a1 at*;generalize W*P*(4294967296*(first+1))=a2 at*;generalize W*P*(x0+4294967296*first)=a3 at*;omega
theorem guess_dec(q g r V W Nu lo P x0 first v1 v2 V0:Nat)(hq:q*(V*W)<=Nu)(hN:Nu=lo+W*P*(x0+4294967296*first))(hlo:lo<W*P)
    (hV:V=V0+P*(v2+4294967296*v1)) (hqg:q<=g) (hg:g*v1+r=first) (ht:r*4294967296+x0<g*v2):q+1<=g:=by
  rcases zQ q g with h|h
  ·exact h
  · exfalso
    obtain rfl:q=g:=zb
    have h1:q*(V*W)=W*(q*V0)+W*P*(q*v2+4294967296*(q*v1)):=by subst hV;grind
    have h2:x0+4294967296*first+1<=q*v2+4294967296*(q*v1):=by
      generalize q*v1=a at*;generalize q*v2=b at*;omega
    have h3:=Nat.mul_le_mul_left (W*P) h2;rw[Nat.mul_add _ _ 1,Nat.mul_one]at h3;generalize W*P*(q*v2+4294967296*(q*v1))=a1 at*;generalize W*P*(x0+4294967296*first)=a3 at*;omega
theorem digit_lt(q X Nu:Nat)(hq:q*X<=Nu)(hN:Nu<X*4294967296):q<4294967296:=by
  apply Nat.lt_of_not_le;intro h;have:=Nat.mul_le_mul_right X h;rw[Nat.mul_comm 4294967296]at this;omega
theorem guess_le(g r V W Nu lo P x0 first v1 v2 V0:Nat)(hN:Nu=lo+W*P*(x0+4294967296*first))(hV:V=V0+P*(v2+4294967296*v1))(hV0:V0<P)
    (hg:g*v1+r=first) (ht:g*v2<=r*4294967296+x0) (hgB:g<=4294967296) (hv1:0<v1):g*(V*W)<=Nu+V*W:=by
  have h1:g*(V*W)=W*(g*V0)+W*P*(g*v2+4294967296*(g*v1)):=by subst hV;grind
  have h2:g*v2+4294967296*(g*v1)<=x0+4294967296*first:=by
    generalize g*v1=a at*;generalize g*v2=b at*;omega
  have h3:=Nat.mul_le_mul_left (W*P) h2;have h4:W*(g*V0)<=W*(4294967296*P):=Nat.mul_le_mul_left _ (Nat.mul_le_mul hgB zb)
  have h5:W*(4294967296*P)<=V*W:=by
    rw[Nat.mul_comm V];apply Nat.mul_le_mul_left;rw[hV,Nat.mul_comm _ P];have:P*4294967296<=P*(v2+4294967296*v1):=Nat.mul_le_mul_left _ zb;omega
  generalize W*(g*V0)=a1 at*;generalize W*(4294967296*P)=a2 at*;generalize W*P*(g*v2+4294967296*(g*v1))=a3 at*;generalize W*P*(x0+4294967296*first)=a4 at*;omega
theorem first_le(V W Nu lo P x0 x1 x2 v1 v2 V0:Nat)(hN:Nu=lo+W*P*(x0+4294967296*(x2*4294967296+x1)))(hlt:Nu<V*W*4294967296)(hV:V=V0+P*(v2+4294967296*v1))(hV0:V0<P)
    (hv2:v2<4294967296):x2<=v1:=by
  apply Nat.le_of_not_lt;intro h
  have h1:V<P*(4294967296*(v1+1)):=by
    have:P*(v2+4294967296*v1+1)<=P*(4294967296*(v1+1)):=Nat.mul_le_mul_left _ zb;rw[Nat.mul_add _ _ 1,Nat.mul_one]at this;omega
  have h2:V*W*4294967296<=P*(4294967296*(v1+1))*W*4294967296:=Nat.mul_le_mul_right _ (Nat.mul_le_mul_right _ (Nat.le_of_lt h1));have h3:W*P*(4294967296*((v1+1)*4294967296))<=W*P*(x0+4294967296*(x2*4294967296+x1)):=Nat.mul_le_mul_left _ zb;have h4:P*(4294967296*(v1+1))*W*4294967296=W*P*(4294967296*((v1+1)*4294967296)):=by grind
  omega
theorem guess_small(g r first v1 x1 x2:Nat)(hg:g*v1+r=first)(hf:first=x2*4294967296+x1)(hx1:x1<4294967296)(hx2:x2<=v1)(hr:4294967296<=r):g<4294967296:=by
  apply Nat.lt_of_not_le;intro h;have h1:4294967296*v1<=g*v1:=Nat.mul_le_mul_right _ h;have h2:x2*4294967296<=v1*4294967296:=Nat.mul_le_mul_right _ hx2;omega
theorem guess_final(g q X Nu:Nat)(h1:g*X<=Nu+X)(h2:Nu<(q+1)*X):g<=q+1:=by
  apply Nat.le_of_not_lt;intro h;have:=Nat.mul_le_mul_right X (show q+2<=g by omega);rw[Nat.add_mul]at*;omega
theorem prod2_lt(g v:Nat)(hg:g<4294967296)(hv:v<4294967296):g*v<=18446744065119617025:=by
  have:=Nat.mul_le_mul (show g<=4294967295 by omega) (show v<=4294967295 by omega);omega
theorem ms_step(Nu U G g k j x y c b t q s o:Nat)(hinv:U+g*(G*4294967296^j)=Nu+4294967296^(j+k)*(b+c))(ht:t=g*y+c)(hq:q=t/4294967296)
    (hs:s+t%4294967296+b=x+4294967296*o) (U':Nat) (hU:U'+4294967296^(j+k)*x=U+4294967296^(j+k)*s):
    U'+g*((G+4294967296^k*y)*4294967296^j)=Nu+4294967296^(j+(k+1))*(o+q):=by
  have h:4294967296*q+t%4294967296=g*y+c:=by rw[hq,<-ht];omega
  generalize t%4294967296=m at*;rw[Nat.pow_add]at*;rw[Nat.pow_succ];have h1:4294967296^j*4294967296^k*(s+m+b)=4294967296^j*4294967296^k*(x+4294967296*o):=by rw[hs]
  have h2:4294967296^j*4294967296^k*(4294967296*q+m)=4294967296^j*4294967296^k*(g*y+c):=by rw[h]
  grind
theorem ms_last(Nu U V g n j x c b s o:Nat)(hinv:U+g*(V*4294967296^j)=Nu+4294967296^(j+n)*(b+c))(hs:s+c+b=x+4294967296*o)
    (U':Nat) (hU:U'+4294967296^(j+n)*x=U+4294967296^(j+n)*s):
    U'+g*(V*4294967296^j)=Nu+4294967296^(j+n+1)*o:=by
  have h1:4294967296^(j+n)*(s+c+b)=4294967296^(j+n)*(x+4294967296*o):=by rw[hs]
  rw[Nat.pow_succ]
  grind
theorem ab_step(M U G k j x y c t q s:Nat)(hinv:U+4294967296^(j+k)*c=M+G*4294967296^j)(ht:t=x+y+c)(hq:q=t/4294967296)(hs:s=t%4294967296)
    (U':Nat) (hU:U'+4294967296^(j+k)*x=U+4294967296^(j+k)*s):
    U'+4294967296^(j+(k+1))*q=M+(G+4294967296^k*y)*4294967296^j:=by
  have h:4294967296*q+s=x+y+c:=by rw[hq,hs,<-ht];omega
  have h2:4294967296^(j+k)*(4294967296*q+s)=4294967296^(j+k)*(x+y+c):=by rw[h]
  rw[<-Nat.add_assoc,Nat.pow_succ];rw[Nat.pow_add]at*
  grind
theorem ab_last(Nu M U V W T L g x c s:Nat)(hM:M+g*(V*W)=Nu+T*4294967296)(hinv:U+T*c=M+V*W)(hg:(g-1)*(V*W)<=Nu)(hg1:1<=g)(hL:U=L+T*x)(hLT:L<T)
    (hx:x<4294967296) (hc:c<=1) (hs:s=(x+c)%4294967296) (U':Nat) (hU:U'+T*x=U+T*s):U'+(g-1)*(V*W)=Nu:=by
  obtain⟨h,rfl⟩:∃h,g=h+1:=⟨g-1,by omega⟩;simp only[Nat.add_sub_cancel]at*;rw[Nat.add_mul,Nat.one_mul]at hM;generalize V*W=X at*;generalize h*X=Y at*;have h1:T*4294967296<=L+T*(x+c):=by rw[Nat.mul_add];omega
  have h2:4294967296<=x+c:=by
    apply Nat.le_of_not_lt;intro hh;have:=Nat.mul_le_mul_left T (show x+c+1<=4294967296 by omega);rw[Nat.mul_add _ _ 1,Nat.mul_one]at this;omega
  have h3:x+c=4294967296:=zb
  have h4:s=0:=by rw[hs,h3]
  have h5:T*(x+c)=T*4294967296:=by rw[h3]
  rw[Nat.mul_add]at h5;rw[h4,Nat.mul_zero]at hU;omega
theorem ms_borrow(Nu M g q X T b:Nat)(h:M+g*X=Nu+T*b)(hM:M<T)(hq:q*X<=Nu)(hq1:Nu<(q+1)*X)(hqg:q<=g)(hg:g<=q+1)(hb:b<=1):(b=0->g=q)/\(b=1->g=q+1):=by
  refine⟨λh0=>?_,λh1=>?_⟩
  · subst h0
    rcases zQ q g with hlt|hge
    · obtain rfl:g=q+1:=by omega
      omega
    ·omega
  · subst h1
    rcases zQ q g with hlt|hge
    ·omega
    · obtain rfl:g=q:=by omega
      omega
theorem pv_zero_above(xs:List Nat)(k:Nat)(h:∀i,k<=i->xs.getD i 0=0):pv xs k=qF xs:=by
  have key:∀m,pv xs (k+m)=pv xs k:=λm=>by
    induction m with
    |zero=>rfl
    |succ m ih=>rw[<-Nat.add_assoc,pv,ih,h (k+m) (by omega),Nat.mul_zero,Nat.add_zero]
  rw[<-key xs.length,qS xs _ (by omega)]
theorem zero_above(xs:List Nat)(k:Nat)(h:qF xs<4294967296^k):∀i,k<=i->xs.getD i 0=0:=by
  intro i hi;rcases zI (xs.getD i 0)with h0|h0
  ·exact h0
  · exfalso
    have hil:i<xs.length:=by
      rcases zQ i xs.length with h1|h1
      ·exact h1
      ·rw[xK xs i h1]at h0;omega
    have e:=xQ xs i 0 hil;rw[Nat.mul_zero,Nat.add_zero]at e;have h1:4294967296^i*1<=4294967296^i*xs.getD i 0:=Nat.mul_le_mul_left _ h0;have h2:4294967296^k<=4294967296^i:=Nat.pow_le_pow_right zb hi;rw[Nat.mul_one]at h1;omega
end Go.Proofs.YtknffgdbdadpcaaGreatDoor
