/-
  DERIVED: THE SHELF's CONTRACTS AT THIS DUMP, IN PLAIN WORDS (tools/lay-plain.mjs out of 'TryzShelf.lean', which tools/lay-shelf.mjs wrote): THE SAME DECLARATIONS UNDER THE SAME NAMES: 'import', 'namespace', 'open', 'def', 'theorem' AND NOTHING ELSE: no command of the shelf's: FOR A HAND-IN. Each laying: the table of numbers ('.._ren') and one theorem, a field a fact of the dump's own or the kernel's comparison; each contract: ONE APPLICATION.
-/
import Derived.Shelf.Strings.Builder1
import Derived.Shelf.Strings.Builder2
import Derived.Shelf.Small.Bits
import Derived.Shelf.Small.Wraps
import Derived.Shelf.Strings.BuilderF
import Derived.Shelf.Strings.BuilderK
import Derived.Shelf.Strings.Builder2Cap
import Derived.Shelf.Strconv.Itoa0
import Derived.Shelf.Strconv.Itoa1
import Derived.Shelf.LaysM
import Derived.Shelf.Strconv.Itoa2
import Derived.Shelf.Strconv.Itoa3
import Derived.Shelf.Strings.Search1
import Derived.Shelf.Strings.Search2
import Derived.Shelf.Strings.Search3
import Derived.Shelf.Strings.Count
import Derived.Shelf.Strings.Shaped
import Derived.Shelf.Sort.Plain
import Derived.Shelf.Strings.Split
import Derived.Shelf.Strings.Replace
import Derived.Shelf.Unicode.DecodeSlow
import Derived.Shelf.Unicode.DecodeAny
import Derived.Shelf.Strings.BuilderCap
import Derived.Shelf.Slices.Turned
import Derived.Ground.Names2Prog
import Derived.Shelf.Slices.SearchI
import Derived.Test.YtkeikfekkdplgaaGreatDoorProg
namespace Go.Proofs
open Go.Shelf
def Tryz.lays128_ren:Go.Shelf.Ren:=⟨fun|128 =>161|n =>n,fun|51 =>145|3 =>3|4 =>4|46 =>128|5 =>5|9 =>9|n =>n,fun|n =>n⟩
theorem Tryz.lays128:Go.Proofs.Lays.n128 Tryz.prog Tryz.lays128_ren:= {
 mixed:=by kernel_rfl
 f128:=Tryz.func161.trans (congrArg some (by kernel_rfl))
 t3:=Tryz.underlying3
 a3:=Tryz.isAgg3
 z3:=Tryz.sizeOf3
 v3:=Tryz.zeroValue3
 t4:=Tryz.underlying4
 a4:=Tryz.isAgg4
 z4:=Tryz.sizeOf4
 v4:=Tryz.zeroValue4
 t5:=Tryz.underlying5
 a5:=Tryz.isAgg5
 z5:=Tryz.sizeOf5
 v5:=Tryz.zeroValue5
 t9:=Tryz.underlying9
 a9:=Tryz.isAgg9
 z9:=Tryz.sizeOf9
 v9:=Tryz.zeroValue9
 t46:=Tryz.underlying128
 a46:=Tryz.isAgg128
 z46:=Tryz.sizeOf128
 v46:=Tryz.zeroValue128
 t51:=Tryz.underlying145
 a51:=Tryz.isAgg145
 z51:=Tryz.sizeOf145
 v51:=Tryz.zeroValue145}
/-- bits.Len32: "Len32 returns the minimum number of bits required to represent x; the result is 0 for x == 0.": IT RETURNS 'Lib.bitLen x'; the world is as it was. ('h0', 'h1': x is a uint32.) (LAID: no walk: one application.) -/
theorem Tryz.bits_Len32(x:Int)(w:World)(h0:0 ≤ x)(h1:x ≤ 4294967295):
    Calls Tryz.prog 161 #[.int .u32 x] w λe w' =>e =.returned (.int .i64 (Lib.bitLen x.toNat)) ∧ w' =w:=Any.bits_Len32 Tryz.lays128 x w h0 h1
def Tryz.lays125_ren:Go.Shelf.Ren:=⟨fun|125 =>116|128 =>161|129 =>162|n =>n,fun|46 =>128|3 =>3|51 =>145|53 =>143|4 =>4|5 =>5|9 =>9|n =>n,fun|n =>n⟩
theorem Tryz.lays125:Go.Proofs.Lays.n125 Tryz.prog Tryz.lays125_ren:= {
 mixed:=by kernel_rfl
 f125:=Tryz.func116.trans (congrArg some (by kernel_rfl))
 f128:=Tryz.func161.trans (congrArg some (by kernel_rfl))
 f129:=Tryz.func162.trans (congrArg some (by kernel_rfl))
 t3:=Tryz.underlying3
 a3:=Tryz.isAgg3
 z3:=Tryz.sizeOf3
 v3:=Tryz.zeroValue3
 t4:=Tryz.underlying4
 a4:=Tryz.isAgg4
 z4:=Tryz.sizeOf4
 v4:=Tryz.zeroValue4
 t5:=Tryz.underlying5
 a5:=Tryz.isAgg5
 z5:=Tryz.sizeOf5
 v5:=Tryz.zeroValue5
 t9:=Tryz.underlying9
 a9:=Tryz.isAgg9
 z9:=Tryz.sizeOf9
 v9:=Tryz.zeroValue9
 t46:=Tryz.underlying128
 a46:=Tryz.isAgg128
 z46:=Tryz.sizeOf128
 v46:=Tryz.zeroValue128
 t51:=Tryz.underlying145
 a51:=Tryz.isAgg145
 z51:=Tryz.sizeOf145
 v51:=Tryz.zeroValue145
 t53:=Tryz.underlying143
 a53:=Tryz.isAgg143
 z53:=Tryz.sizeOf143
 v53:=Tryz.zeroValue143}
/-- bits.Len: "Len returns the minimum number of bits required to represent x; the result is 0 for x == 0.":IT RETURNS 'Lib.bitLen x';the world is as it was. (A uint has 64 bits in the model.) ITS CALLEE bits.Len64 IS MET BY ITS OWN CONTRACT OFF THE SHELF (lay that first). (LAID:no walk:one application.) -/
theorem Tryz.bits_Len(x:Int)(w:World)(h0:0 ≤ x)(h1:x ≤ 18446744073709551615):
    Calls Tryz.prog 116 #[.int .u64 x] w λe w' =>e =.returned (.int .i64 (Lib.bitLen x.toNat)) ∧ w' =w:=Any.bits_Len Tryz.lays125 x w h0 h1
def Tryz.lays133_ren:Go.Shelf.Ren:=⟨fun|133 =>237|128 =>161|n =>n,fun|51 =>145|3 =>3|4 =>4|46 =>128|5 =>5|9 =>9|n =>n,fun|n =>n⟩
theorem Tryz.lays133:Go.Proofs.Lays.n133 Tryz.prog Tryz.lays133_ren:= {
 mixed:=by kernel_rfl
 f128:=Tryz.func161.trans (congrArg some (by kernel_rfl))
 f133:=Tryz.func237.trans (congrArg some (by kernel_rfl))
 t3:=Tryz.underlying3
 a3:=Tryz.isAgg3
 z3:=Tryz.sizeOf3
 v3:=Tryz.zeroValue3
 t4:=Tryz.underlying4
 a4:=Tryz.isAgg4
 z4:=Tryz.sizeOf4
 v4:=Tryz.zeroValue4
 t5:=Tryz.underlying5
 a5:=Tryz.isAgg5
 z5:=Tryz.sizeOf5
 v5:=Tryz.zeroValue5
 t9:=Tryz.underlying9
 a9:=Tryz.isAgg9
 z9:=Tryz.sizeOf9
 v9:=Tryz.zeroValue9
 t46:=Tryz.underlying128
 a46:=Tryz.isAgg128
 z46:=Tryz.sizeOf128
 v46:=Tryz.zeroValue128
 t51:=Tryz.underlying145
 a51:=Tryz.isAgg145
 z51:=Tryz.sizeOf145
 v51:=Tryz.zeroValue145}
/-- bits.LeadingZeros32: "LeadingZeros32 returns the number of leading zero bits in x; the result is 32 for x == 0.":IT RETURNS '32 - Lib.bitLen x';the world is as it was. ITS CALLEE bits.Len32 IS MET BY ITS OWN CONTRACT OFF THE SHELF (lay that first):entered in place it sends the kernel out of memory. (LAID:no walk:one application.) -/
theorem Tryz.bits_LeadingZeros32(x:Int)(w:World)(h0:0 ≤ x)(h1:x ≤ 4294967295):
    Calls Tryz.prog 237 #[.int .u32 x] w λe w' =>e =.returned (.int .i64 (32 - (Lib.bitLen x.toNat:Int))) ∧ w' =w:=Any.bits_LeadingZeros32 Tryz.lays133 x w h0 h1
def Tryz.laysM171_ren:Go.Shelf.Ren:=⟨fun|171 =>181|243 =>215|246 =>234|283 =>246|284 =>247|285 =>248|286 =>249|129 =>162|317 =>257|318 =>258|319 =>259|320 =>260|337 =>263|338 =>264|n =>n,fun|3 =>3|9 =>9|2 =>2|4 =>4|171 =>336|0 =>0|53 =>143|37 =>22|5 =>5|173 =>338|212 =>348|51 =>145|20 =>20|213 =>349|46 =>128|232 =>351|233 =>352|n =>n,fun|17 =>3|18 =>5|19 =>6|n =>n⟩
theorem Tryz.laysM171:Go.Proofs.LaysM.n171 Tryz.prog Tryz.laysM171_ren:= {
 mixed:=by kernel_rfl
 f129:=Tryz.func162.trans (congrArg some (by kernel_rfl))
 f171:=Tryz.func181.trans (congrArg some (by kernel_rfl))
 f243:=Tryz.func215.trans (congrArg some (by kernel_rfl))
 f246:=Tryz.func234.trans (congrArg some (by kernel_rfl))
 f283:=Tryz.func246.trans (congrArg some (by kernel_rfl))
 f284:=Tryz.func247.trans (congrArg some (by kernel_rfl))
 f285:=Tryz.func248.trans (congrArg some (by kernel_rfl))
 f286:=Tryz.func249.trans (congrArg some (by kernel_rfl))
 f317:=Tryz.func257.trans (congrArg some (by kernel_rfl))
 f318:=Tryz.func258.trans (congrArg some (by kernel_rfl))
 f319:=Tryz.func259.trans (congrArg some (by kernel_rfl))
 f320:=Tryz.func260.trans (congrArg some (by kernel_rfl))
 f337:=Tryz.func263.trans (congrArg some (by kernel_rfl))
 f338:=Tryz.func264.trans (congrArg some (by kernel_rfl))
 t0:=Tryz.underlying0
 a0:=Tryz.isAgg0
 z0:=Tryz.sizeOf0
 v0:=Tryz.zeroValue0
 t2:=Tryz.underlying2
 a2:=Tryz.isAgg2
 z2:=Tryz.sizeOf2
 v2:=Tryz.zeroValue2
 t3:=Tryz.underlying3
 a3:=Tryz.isAgg3
 z3:=Tryz.sizeOf3
 v3:=Tryz.zeroValue3
 t4:=Tryz.underlying4
 a4:=Tryz.isAgg4
 z4:=Tryz.sizeOf4
 v4:=Tryz.zeroValue4
 t5:=Tryz.underlying5
 a5:=Tryz.isAgg5
 z5:=Tryz.sizeOf5
 v5:=Tryz.zeroValue5
 t9:=Tryz.underlying9
 a9:=Tryz.isAgg9
 z9:=Tryz.sizeOf9
 v9:=Tryz.zeroValue9
 t20:=Tryz.underlying20
 a20:=Tryz.isAgg20
 z20:=Tryz.sizeOf20
 v20:=Tryz.zeroValue20
 t37:=Tryz.underlying22
 a37:=Tryz.isAgg22
 z37:=Tryz.sizeOf22
 v37:=Tryz.zeroValue22
 t46:=Tryz.underlying128
 a46:=Tryz.isAgg128
 z46:=Tryz.sizeOf128
 v46:=Tryz.zeroValue128
 t51:=Tryz.underlying145
 a51:=Tryz.isAgg145
 z51:=Tryz.sizeOf145
 v51:=Tryz.zeroValue145
 t53:=Tryz.underlying143
 a53:=Tryz.isAgg143
 z53:=Tryz.sizeOf143
 v53:=Tryz.zeroValue143
 t171:=Tryz.underlying336
 a171:=Tryz.isAgg336
 z171:=Tryz.sizeOf336
 v171:=Tryz.zeroValue336
 t173:=Tryz.underlying338
 a173:=Tryz.isAgg338
 z173:=Tryz.sizeOf338
 v173:=Tryz.zeroValue338
 t212:=Tryz.underlying348
 a212:=Tryz.isAgg348
 z212:=Tryz.sizeOf348
 v212:=Tryz.zeroValue348
 t213:=Tryz.underlying349
 a213:=Tryz.isAgg349
 z213:=Tryz.sizeOf349
 t232:=Tryz.underlying351
 a232:=Tryz.isAgg351
 z232:=Tryz.sizeOf351
 v232:=Tryz.zeroValue351
 t233:=Tryz.underlying352
 a233:=Tryz.isAgg352
 z233:=Tryz.sizeOf352
 v233:=Tryz.zeroValue352
 g17:=by kernel_rfl
 g18:=by kernel_rfl
 g19:=by kernel_rfl
 i0:=by kernel_rfl
 i2:=by kernel_rfl
 i3:=by kernel_rfl
 i4:=by kernel_rfl
 i5:=by kernel_rfl
 i9:=by kernel_rfl
 i20:=by kernel_rfl
 i37:=by kernel_rfl
 i46:=by kernel_rfl
 i51:=by kernel_rfl
 i53:=by kernel_rfl
 i171:=by kernel_rfl
 i173:=by kernel_rfl
 i212:=by kernel_rfl
 i232:=by kernel_rfl
 i233:=by kernel_rfl
 m17:=by kernel_rfl
 m18:=by kernel_rfl
 m19:=by kernel_rfl}
open Go.RowKit Go.Sort Go.Lib in
/-- strconv.Itoa: "Itoa is equivalent to FormatInt(int64(i), 10).":i's DECIMAL NUMERAL ('Lib.itoa':a '-' where i is negative,then the digits),FOR EVERY int. The world behind the call:the world before it,new blocks behind the heap (the library's 'var a [24]byte'),draws. (LAID:no walk:one application.) -/
theorem Tryz.strconv_Itoa(n:Int)(h0: -9223372036854775808 ≤ n)(h1:n ≤ 9223372036854775807)(w:World)(htab:Lib.TabIs Tryz.prog w "internal/strconv.uint64pow10" .u64 Lib.pow10Tab):
    Calls Tryz.prog 181 #[.int .i64 n] w λe w' =>e =.returned (.string ⟨(Lib.itoa n).toArray⟩) ∧ ∃k os,w' =grow (w.drewN k) os:=Any.strconv_Itoa Tryz.laysM171 n h0 h1 w htab
def Tryz.lays217_ren:Go.Shelf.Ren:=⟨fun|217 =>253|266 =>261|n =>n,fun|9 =>9|5 =>5|3 =>3|n =>n,fun|n =>n⟩
theorem Tryz.lays217:Go.Proofs.Lays.n217 Tryz.prog Tryz.lays217_ren:= {
 mixed:=by kernel_rfl
 f217:=Tryz.func253.trans (congrArg some (by kernel_rfl))
 f266:=Tryz.func261.trans (congrArg some (by kernel_rfl))
 t3:=Tryz.underlying3
 a3:=Tryz.isAgg3
 z3:=Tryz.sizeOf3
 v3:=Tryz.zeroValue3
 t5:=Tryz.underlying5
 a5:=Tryz.isAgg5
 z5:=Tryz.sizeOf5
 v5:=Tryz.zeroValue5
 t9:=Tryz.underlying9
 a9:=Tryz.isAgg9
 z9:=Tryz.sizeOf9
 v9:=Tryz.zeroValue9}
open Go.RowKit Go.Lib in
/-- internal/stringslite.IndexByte (what strings.IndexByte calls):IT RETURNS 'Lib.indexByte s c';the world is as it was. (LAID:no walk:one application.) -/
theorem Tryz.stringslite_IndexByte(s:ByteArray)(c:Int)(w:World):
    Calls Tryz.prog 253 #[.string s,.int .u8 c] w λe w' =>e =.returned (.int .i64 (Lib.indexByte s.data.toList c.toNat.toUInt8)) ∧ w' =w:=Any.stringslite_IndexByte Tryz.lays217 s c w
def Tryz.lays189_ren:Go.Shelf.Ren:=⟨fun|189 =>85|125 =>116|257 =>115|128 =>161|129 =>162|294 =>152|295 =>153|296 =>154|297 =>155|298 =>156|299 =>157|216 =>158|300 =>159|301 =>160|328 =>197|329 =>198|330 =>199|331 =>200|332 =>201|215 =>202|343 =>225|n =>n,fun|28 =>41|3 =>3|46 =>128|0 =>0|51 =>145|53 =>143|4 =>4|183 =>250|182 =>249|131 =>255|5 =>5|9 =>9|218 =>286|222 =>290|228 =>310|229 =>311|n =>n,fun|n =>n⟩
theorem Tryz.lays189:Go.Proofs.Lays.n189 Tryz.prog Tryz.lays189_ren:= {
 mixed:=by kernel_rfl
 f125:=Tryz.func116.trans (congrArg some (by kernel_rfl))
 f128:=Tryz.func161.trans (congrArg some (by kernel_rfl))
 f129:=Tryz.func162.trans (congrArg some (by kernel_rfl))
 f189:=Tryz.func85.trans (congrArg some (by kernel_rfl))
 f215:=Tryz.func202.trans (congrArg some (by kernel_rfl))
 f216:=Tryz.func158.trans (congrArg some (by kernel_rfl))
 f257:=Tryz.func115.trans (congrArg some (by kernel_rfl))
 f294:=Tryz.func152.trans (congrArg some (by kernel_rfl))
 f295:=Tryz.func153.trans (congrArg some (by kernel_rfl))
 f296:=Tryz.func154.trans (congrArg some (by kernel_rfl))
 f297:=Tryz.func155.trans (congrArg some (by kernel_rfl))
 f298:=Tryz.func156.trans (congrArg some (by kernel_rfl))
 f299:=Tryz.func157.trans (congrArg some (by kernel_rfl))
 f300:=Tryz.func159.trans (congrArg some (by kernel_rfl))
 f301:=Tryz.func160.trans (congrArg some (by kernel_rfl))
 f328:=Tryz.func197.trans (congrArg some (by kernel_rfl))
 f329:=Tryz.func198.trans (congrArg some (by kernel_rfl))
 f330:=Tryz.func199.trans (congrArg some (by kernel_rfl))
 f331:=Tryz.func200.trans (congrArg some (by kernel_rfl))
 f332:=Tryz.func201.trans (congrArg some (by kernel_rfl))
 f343:=Tryz.func225.trans (congrArg some (by kernel_rfl))
 t0:=Tryz.underlying0
 a0:=Tryz.isAgg0
 z0:=Tryz.sizeOf0
 v0:=Tryz.zeroValue0
 t3:=Tryz.underlying3
 a3:=Tryz.isAgg3
 z3:=Tryz.sizeOf3
 v3:=Tryz.zeroValue3
 t4:=Tryz.underlying4
 a4:=Tryz.isAgg4
 z4:=Tryz.sizeOf4
 v4:=Tryz.zeroValue4
 t5:=Tryz.underlying5
 a5:=Tryz.isAgg5
 z5:=Tryz.sizeOf5
 v5:=Tryz.zeroValue5
 t9:=Tryz.underlying9
 a9:=Tryz.isAgg9
 z9:=Tryz.sizeOf9
 v9:=Tryz.zeroValue9
 t28:=Tryz.underlying41
 a28:=Tryz.isAgg41
 z28:=Tryz.sizeOf41
 v28:=Tryz.zeroValue41
 t46:=Tryz.underlying128
 a46:=Tryz.isAgg128
 z46:=Tryz.sizeOf128
 v46:=Tryz.zeroValue128
 t51:=Tryz.underlying145
 a51:=Tryz.isAgg145
 z51:=Tryz.sizeOf145
 v51:=Tryz.zeroValue145
 t53:=Tryz.underlying143
 a53:=Tryz.isAgg143
 z53:=Tryz.sizeOf143
 v53:=Tryz.zeroValue143
 t131:=Tryz.underlying255
 a131:=Tryz.isAgg255
 z131:=Tryz.sizeOf255
 v131:=Tryz.zeroValue255
 t182:=Tryz.underlying249
 a182:=Tryz.isAgg249
 z182:=Tryz.sizeOf249
 v182:=Tryz.zeroValue249
 t183:=Tryz.underlying250
 a183:=Tryz.isAgg250
 z183:=Tryz.sizeOf250
 v183:=Tryz.zeroValue250
 t218:=Tryz.underlying286
 a218:=Tryz.isAgg286
 z218:=Tryz.sizeOf286
 v218:=Tryz.zeroValue286
 t222:=Tryz.underlying290
 a222:=Tryz.isAgg290
 z222:=Tryz.sizeOf290
 v222:=Tryz.zeroValue290
 t228:=Tryz.underlying310
 a228:=Tryz.isAgg310
 z228:=Tryz.sizeOf310
 v228:=Tryz.zeroValue310
 t229:=Tryz.underlying311
 a229:=Tryz.isAgg311
 z229:=Tryz.sizeOf311
 v229:=Tryz.zeroValue311}
open Go.Sort Go.RowKit in
theorem Tryz.slices_Sort_int(blk off cap:Nat)(zs:List Int)(w:World)(hH:Holds (Value.int .i64) w blk off zs.toArray)(hblk:blk < w.heap.size)(hsz:zs.length < 4611686018427387904):
    Calls Tryz.prog 85 #[.slice (some ⟨blk,off,none⟩) zs.length cap] w λe w' =>
      e =.returned (.tuple #[]) ∧ ∃n os,w' =grow (putRow (Value.int .i64) (Sort.ahead w n) blk off (zs.mergeSort λx y =>decide (x ≤ y)).toArray) os:=Any.slices_Sort_int Tryz.lays189 blk off cap zs w hH hblk hsz
def Tryz.lays190_ren:Go.Shelf.Ren:=⟨fun|190 =>86|125 =>116|258 =>117|128 =>161|129 =>162|302 =>163|303 =>164|304 =>165|305 =>166|306 =>167|307 =>168|308 =>169|309 =>170|310 =>171|333 =>203|329 =>198|330 =>199|334 =>204|335 =>205|336 =>206|344 =>226|n =>n,fun|31 =>51|9 =>9|3 =>3|46 =>128|0 =>0|51 =>145|53 =>143|4 =>4|183 =>250|182 =>249|131 =>255|5 =>5|218 =>286|222 =>290|228 =>310|229 =>311|n =>n,fun|n =>n⟩
theorem Tryz.lays190:Go.Proofs.Lays.n190 Tryz.prog Tryz.lays190_ren:= {
 mixed:=by kernel_rfl
 f125:=Tryz.func116.trans (congrArg some (by kernel_rfl))
 f128:=Tryz.func161.trans (congrArg some (by kernel_rfl))
 f129:=Tryz.func162.trans (congrArg some (by kernel_rfl))
 f190:=Tryz.func86.trans (congrArg some (by kernel_rfl))
 f258:=Tryz.func117.trans (congrArg some (by kernel_rfl))
 f302:=Tryz.func163.trans (congrArg some (by kernel_rfl))
 f303:=Tryz.func164.trans (congrArg some (by kernel_rfl))
 f304:=Tryz.func165.trans (congrArg some (by kernel_rfl))
 f305:=Tryz.func166.trans (congrArg some (by kernel_rfl))
 f306:=Tryz.func167.trans (congrArg some (by kernel_rfl))
 f307:=Tryz.func168.trans (congrArg some (by kernel_rfl))
 f308:=Tryz.func169.trans (congrArg some (by kernel_rfl))
 f309:=Tryz.func170.trans (congrArg some (by kernel_rfl))
 f310:=Tryz.func171.trans (congrArg some (by kernel_rfl))
 f329:=Tryz.func198.trans (congrArg some (by kernel_rfl))
 f330:=Tryz.func199.trans (congrArg some (by kernel_rfl))
 f333:=Tryz.func203.trans (congrArg some (by kernel_rfl))
 f334:=Tryz.func204.trans (congrArg some (by kernel_rfl))
 f335:=Tryz.func205.trans (congrArg some (by kernel_rfl))
 f336:=Tryz.func206.trans (congrArg some (by kernel_rfl))
 f344:=Tryz.func226.trans (congrArg some (by kernel_rfl))
 t0:=Tryz.underlying0
 a0:=Tryz.isAgg0
 z0:=Tryz.sizeOf0
 v0:=Tryz.zeroValue0
 t3:=Tryz.underlying3
 a3:=Tryz.isAgg3
 z3:=Tryz.sizeOf3
 v3:=Tryz.zeroValue3
 t4:=Tryz.underlying4
 a4:=Tryz.isAgg4
 z4:=Tryz.sizeOf4
 v4:=Tryz.zeroValue4
 t5:=Tryz.underlying5
 a5:=Tryz.isAgg5
 z5:=Tryz.sizeOf5
 v5:=Tryz.zeroValue5
 t9:=Tryz.underlying9
 a9:=Tryz.isAgg9
 z9:=Tryz.sizeOf9
 v9:=Tryz.zeroValue9
 t31:=Tryz.underlying51
 a31:=Tryz.isAgg51
 z31:=Tryz.sizeOf51
 v31:=Tryz.zeroValue51
 t46:=Tryz.underlying128
 a46:=Tryz.isAgg128
 z46:=Tryz.sizeOf128
 v46:=Tryz.zeroValue128
 t51:=Tryz.underlying145
 a51:=Tryz.isAgg145
 z51:=Tryz.sizeOf145
 v51:=Tryz.zeroValue145
 t53:=Tryz.underlying143
 a53:=Tryz.isAgg143
 z53:=Tryz.sizeOf143
 v53:=Tryz.zeroValue143
 t131:=Tryz.underlying255
 a131:=Tryz.isAgg255
 z131:=Tryz.sizeOf255
 v131:=Tryz.zeroValue255
 t182:=Tryz.underlying249
 a182:=Tryz.isAgg249
 z182:=Tryz.sizeOf249
 v182:=Tryz.zeroValue249
 t183:=Tryz.underlying250
 a183:=Tryz.isAgg250
 z183:=Tryz.sizeOf250
 v183:=Tryz.zeroValue250
 t218:=Tryz.underlying286
 a218:=Tryz.isAgg286
 z218:=Tryz.sizeOf286
 v218:=Tryz.zeroValue286
 t222:=Tryz.underlying290
 a222:=Tryz.isAgg290
 z222:=Tryz.sizeOf290
 v222:=Tryz.zeroValue290
 t228:=Tryz.underlying310
 a228:=Tryz.isAgg310
 z228:=Tryz.sizeOf310
 v228:=Tryz.zeroValue310
 t229:=Tryz.underlying311
 a229:=Tryz.isAgg311
 z229:=Tryz.sizeOf311
 v229:=Tryz.zeroValue311}
open Go.Sort Go.RowKit in
theorem Tryz.slices_Sort_string(blk off cap:Nat)(ss:List (List UInt8))(w:World)(hH:Holds encStr w blk off ss.toArray)(hblk:blk < w.heap.size)(hsz:ss.length < 4611686018427387904):
    Calls Tryz.prog 86 #[.slice (some ⟨blk,off,none⟩) ss.length cap] w λe w' =>
      e =.returned (.tuple #[]) ∧ ∃n os,w' =grow (putRow encStr (Sort.ahead w n) blk off (ss.mergeSort λx y =>decide (x ≤ y)).toArray) os:=Any.slices_Sort_string Tryz.lays190 blk off cap ss w hH hblk hsz
def Tryz.lays155_ren:Go.Shelf.Ren:=⟨fun|155 =>180|154 =>214|138 =>228|165 =>229|143 =>230|166 =>231|197 =>232|169 =>233|195 =>240|218 =>241|240 =>242|241 =>243|219 =>244|260 =>245|276 =>251|277 =>252|217 =>253|225 =>254|224 =>255|267 =>256|266 =>261|314 =>262|n =>n,fun|9 =>9|3 =>3|4 =>4|72 =>319|0 =>0|76 =>323|105 =>325|21 =>21|5 =>5|70 =>317|20 =>20|37 =>22|75 =>322|127 =>335|164 =>340|46 =>128|119 =>344|139 =>347|138 =>346|146 =>307|51 =>145|80 =>327|n =>n,fun|1 =>0|3 =>1|4 =>2|n =>n⟩
theorem Tryz.lays155:Go.Proofs.Lays.n155 Tryz.prog Tryz.lays155_ren:= {
 mixed:=by kernel_rfl
 f138:=Tryz.func228.trans (congrArg some (by kernel_rfl))
 f143:=Tryz.func230.trans (congrArg some (by kernel_rfl))
 f154:=Tryz.func214.trans (congrArg some (by kernel_rfl))
 f155:=Tryz.func180.trans (congrArg some (by kernel_rfl))
 f165:=Tryz.func229.trans (congrArg some (by kernel_rfl))
 f166:=Tryz.func231.trans (congrArg some (by kernel_rfl))
 f169:=Tryz.func233.trans (congrArg some (by kernel_rfl))
 f195:=Tryz.func240.trans (congrArg some (by kernel_rfl))
 f197:=Tryz.func232.trans (congrArg some (by kernel_rfl))
 f217:=Tryz.func253.trans (congrArg some (by kernel_rfl))
 f218:=Tryz.func241.trans (congrArg some (by kernel_rfl))
 f219:=Tryz.func244.trans (congrArg some (by kernel_rfl))
 f224:=Tryz.func255.trans (congrArg some (by kernel_rfl))
 f225:=Tryz.func254.trans (congrArg some (by kernel_rfl))
 f240:=Tryz.func242.trans (congrArg some (by kernel_rfl))
 f241:=Tryz.func243.trans (congrArg some (by kernel_rfl))
 f260:=Tryz.func245.trans (congrArg some (by kernel_rfl))
 f266:=Tryz.func261.trans (congrArg some (by kernel_rfl))
 f267:=Tryz.func256.trans (congrArg some (by kernel_rfl))
 f276:=Tryz.func251.trans (congrArg some (by kernel_rfl))
 f277:=Tryz.func252.trans (congrArg some (by kernel_rfl))
 f314:=Tryz.func262.trans (congrArg some (by kernel_rfl))
 t0:=Tryz.underlying0
 a0:=Tryz.isAgg0
 z0:=Tryz.sizeOf0
 v0:=Tryz.zeroValue0
 t3:=Tryz.underlying3
 a3:=Tryz.isAgg3
 z3:=Tryz.sizeOf3
 v3:=Tryz.zeroValue3
 t4:=Tryz.underlying4
 a4:=Tryz.isAgg4
 z4:=Tryz.sizeOf4
 v4:=Tryz.zeroValue4
 t5:=Tryz.underlying5
 a5:=Tryz.isAgg5
 z5:=Tryz.sizeOf5
 v5:=Tryz.zeroValue5
 t9:=Tryz.underlying9
 a9:=Tryz.isAgg9
 z9:=Tryz.sizeOf9
 v9:=Tryz.zeroValue9
 t20:=Tryz.underlying20
 a20:=Tryz.isAgg20
 z20:=Tryz.sizeOf20
 v20:=Tryz.zeroValue20
 t21:=Tryz.underlying21
 a21:=Tryz.isAgg21
 z21:=Tryz.sizeOf21
 v21:=Tryz.zeroValue21
 t37:=Tryz.underlying22
 a37:=Tryz.isAgg22
 z37:=Tryz.sizeOf22
 v37:=Tryz.zeroValue22
 t46:=Tryz.underlying128
 a46:=Tryz.isAgg128
 z46:=Tryz.sizeOf128
 v46:=Tryz.zeroValue128
 t51:=Tryz.underlying145
 a51:=Tryz.isAgg145
 z51:=Tryz.sizeOf145
 v51:=Tryz.zeroValue145
 t70:=Tryz.underlying317
 a70:=Tryz.isAgg317
 z70:=Tryz.sizeOf317
 v70:=Tryz.zeroValue317
 t72:=Tryz.underlying319
 a72:=Tryz.isAgg319
 z72:=Tryz.sizeOf319
 v72:=Tryz.zeroValue319
 t75:=Tryz.underlying322
 a75:=Tryz.isAgg322
 z75:=Tryz.sizeOf322
 v75:=Tryz.zeroValue322
 t76:=Tryz.underlying323
 a76:=Tryz.isAgg323
 z76:=Tryz.sizeOf323
 v76:=Tryz.zeroValue323
 t105:=Tryz.underlying325
 a105:=Tryz.isAgg325
 z105:=Tryz.sizeOf325
 v105:=Tryz.zeroValue325
 t119:=Tryz.underlying344
 a119:=Tryz.isAgg344
 z119:=Tryz.sizeOf344
 t127:=Tryz.underlying335
 a127:=Tryz.isAgg335
 z127:=Tryz.sizeOf335
 v127:=Tryz.zeroValue335
 t138:=Tryz.underlying346
 a138:=Tryz.isAgg346
 z138:=Tryz.sizeOf346
 v138:=Tryz.zeroValue346
 t139:=Tryz.underlying347
 a139:=Tryz.isAgg347
 z139:=Tryz.sizeOf347
 v139:=Tryz.zeroValue347
 t146:=Tryz.underlying307
 a146:=Tryz.isAgg307
 z146:=Tryz.sizeOf307
 v146:=Tryz.zeroValue307
 t164:=Tryz.underlying340
 a164:=Tryz.isAgg340
 z164:=Tryz.sizeOf340
 v164:=Tryz.zeroValue340
 g1:=by kernel_rfl
 g3:=by kernel_rfl
 g4:=by kernel_rfl}
theorem Tryz.Builder_Extra_155:Builder.Extra Tryz.prog Tryz.lays155_ren:= {
 sizeBuilder:=by kernel_rfl
 liesBuilder:=by kernel_rfl
 t5:=Tryz.underlying5
 a5:=Tryz.isAgg5
 z5:=Tryz.sizeOf5
 v5:=Tryz.zeroValue5
 infoByte:=by kernel_rfl
 cellsByte:=by kernel_rfl
 sizeByte:=by kernel_rfl
 neB5:=by decide}
open Go.RowKit Go.Lib in
/-- strings.ReplaceAll: "ReplaceAll returns a copy of the string s with all non-overlapping instances of old replaced by new.":AT AN old THAT IS NOT EMPTY:'Lib.replaceAll s old new'. (LAID:no walk:one application.) -/
theorem Tryz.strings_ReplaceAll(s old new:ByteArray)(m:Int)(w:World)(hs:s.size < 4294967281)(hm:w.cell? ⟨0,0,none⟩=some (.int .i64 m))(h1:1 ≤ old.size)(hlen:s.size + Lib.countB s old * new.size ≤ 140737488355328):
    Calls Tryz.prog 180 #[.string s,.string old,.string new] w λe w' =>
      e =.returned (.string ⟨(Lib.replaceAll s.data.toList old.data.toList new.data.toList).toArray⟩) ∧ Below w.heap.size w w':=Any.strings_ReplaceAll Tryz.lays155 Tryz.Builder_Extra_155 s old new m w hs hm h1 hlen
end Go.Proofs
