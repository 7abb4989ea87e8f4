/-
  DERIVED: THE SHELF's CONTRACTS AT THIS DUMP, IN PLAIN WORDS (tools/lay-plain.mjs out of 'TryzShelf.lean', which tools/lay-shelf.mjs wrote): THE SAME DECLARATIONS UNDER THE SAME NAMES: 'import', 'namespace', 'open', 'def', 'theorem' AND NOTHING ELSE: no command of the shelf's: FOR A HAND-IN. Each laying: the table of numbers ('.._ren') and one theorem, a field a fact of the dump's own or the kernel's comparison; each contract: ONE APPLICATION.
  A natural divided by a word, and the bits of a natural, in package integer. At most 2^30 words. Plain laws on long division, digit by digit: the guess of a digit from the first digits is right or one too great. No program.
-/
import Derived.Shelf.Strings.Builder1
import Derived.Shelf.Strings.Builder2
import Derived.Shelf.Small.Bits
import Derived.Shelf.Small.Wraps
import Derived.Shelf.Strings.BuilderF
import Derived.Shelf.Strings.BuilderK
import Derived.Shelf.Strings.Builder2Cap
import Derived.Shelf.Strconv.Itoa0
import Derived.Shelf.Strconv.Itoa1
import Derived.Shelf.LaysM
import Derived.Shelf.Strconv.Itoa2
import Derived.Shelf.Strconv.Itoa3
import Derived.Shelf.Strings.Search1
import Derived.Shelf.Strings.Search2
import Derived.Shelf.Strings.Search3
import Derived.Shelf.Strings.Count
import Derived.Shelf.Strings.Shaped
import Derived.Shelf.Sort.Plain
import Derived.Shelf.Strings.Split
import Derived.Shelf.Strings.Replace
import Derived.Shelf.Unicode.DecodeSlow
import Derived.Shelf.Unicode.DecodeAny
import Derived.Shelf.Strings.BuilderCap
import Derived.Shelf.Slices.Turned
import Derived.Ground.Names2Prog
import Derived.Shelf.Slices.SearchI
import Derived.Test.YtkeikfekkdplgaaGreatDoorProg
import Derived.Test.YtkeikfekkdplgaaGreatDoorBase
import Derived.Test.YtkeikfekkdplgaaGreatDoorAdd
namespace Go.Proofs
open Go.Shelf
def Tryz.lays128_ren : Go.Shelf.Ren := ⟨fun | 128 => 161 | n => n, fun | 51 => 145 | 3 => 3 | 4 => 4 | 46 => 128 | 5 => 5 | 9 => 9 | n => n, fun | n => n⟩
theorem Tryz.lays128 : Go.Proofs.Lays.n128 Tryz.prog Tryz.lays128_ren := {
 mixed := by kernel_rfl
 f128 := Tryz.func161.trans (congrArg some (by kernel_rfl))
 t3 := Tryz.underlying3
 a3 := Tryz.isAgg3
 z3 := Tryz.sizeOf3
 v3 := Tryz.zeroValue3
 t4 := Tryz.underlying4
 a4 := Tryz.isAgg4
 z4 := Tryz.sizeOf4
 v4 := Tryz.zeroValue4
 t5 := Tryz.underlying5
 a5 := Tryz.isAgg5
 z5 := Tryz.sizeOf5
 v5 := Tryz.zeroValue5
 t9 := Tryz.underlying9
 a9 := Tryz.isAgg9
 z9 := Tryz.sizeOf9
 v9 := Tryz.zeroValue9
 t46 := Tryz.underlying128
 a46 := Tryz.isAgg128
 z46 := Tryz.sizeOf128
 v46 := Tryz.zeroValue128
 t51 := Tryz.underlying145
 a51 := Tryz.isAgg145
 z51 := Tryz.sizeOf145
 v51 := Tryz.zeroValue145 }
/-- bits.Len32: "Len32 returns the minimum number of bits required to represent x; the result is 0 for x == 0.": IT RETURNS 'Lib.bitLen x'; the world is as it was. ('h0', 'h1': x is a uint32.) (LAID: no walk: one application.) -/
theorem Tryz.bits_Len32 (x : Int) (w : World) (h0 : 0 ≤ x) (h1 : x ≤ 4294967295) :
    Calls Tryz.prog 161 #[.int .u32 x] w fun e w' => e = .returned (.int .i64 (Lib.bitLen x.toNat)) ∧ w' = w := Any.bits_Len32 Tryz.lays128 x w h0 h1
def Tryz.lays125_ren : Go.Shelf.Ren := ⟨fun | 125 => 116 | 128 => 161 | 129 => 162 | n => n, fun | 46 => 128 | 3 => 3 | 51 => 145 | 53 => 143 | 4 => 4 | 5 => 5 | 9 => 9 | n => n, fun | n => n⟩
theorem Tryz.lays125 : Go.Proofs.Lays.n125 Tryz.prog Tryz.lays125_ren := {
 mixed := by kernel_rfl
 f125 := Tryz.func116.trans (congrArg some (by kernel_rfl))
 f128 := Tryz.func161.trans (congrArg some (by kernel_rfl))
 f129 := Tryz.func162.trans (congrArg some (by kernel_rfl))
 t3 := Tryz.underlying3
 a3 := Tryz.isAgg3
 z3 := Tryz.sizeOf3
 v3 := Tryz.zeroValue3
 t4 := Tryz.underlying4
 a4 := Tryz.isAgg4
 z4 := Tryz.sizeOf4
 v4 := Tryz.zeroValue4
 t5 := Tryz.underlying5
 a5 := Tryz.isAgg5
 z5 := Tryz.sizeOf5
 v5 := Tryz.zeroValue5
 t9 := Tryz.underlying9
 a9 := Tryz.isAgg9
 z9 := Tryz.sizeOf9
 v9 := Tryz.zeroValue9
 t46 := Tryz.underlying128
 a46 := Tryz.isAgg128
 z46 := Tryz.sizeOf128
 v46 := Tryz.zeroValue128
 t51 := Tryz.underlying145
 a51 := Tryz.isAgg145
 z51 := Tryz.sizeOf145
 v51 := Tryz.zeroValue145
 t53 := Tryz.underlying143
 a53 := Tryz.isAgg143
 z53 := Tryz.sizeOf143
 v53 := Tryz.zeroValue143 }
/-- bits.Len: "Len returns the minimum number of bits required to represent x; the result is 0 for x == 0.": IT RETURNS 'Lib.bitLen x'; the world is as it was. (A uint has 64 bits in the model.) ITS CALLEE bits.Len64 IS MET BY ITS OWN CONTRACT OFF THE SHELF (lay that first). (LAID: no walk: one application.) -/
theorem Tryz.bits_Len (x : Int) (w : World) (h0 : 0 ≤ x) (h1 : x ≤ 18446744073709551615) :
    Calls Tryz.prog 116 #[.int .u64 x] w fun e w' => e = .returned (.int .i64 (Lib.bitLen x.toNat)) ∧ w' = w := Any.bits_Len Tryz.lays125 x w h0 h1
def Tryz.lays133_ren : Go.Shelf.Ren := ⟨fun | 133 => 237 | 128 => 161 | n => n, fun | 51 => 145 | 3 => 3 | 4 => 4 | 46 => 128 | 5 => 5 | 9 => 9 | n => n, fun | n => n⟩
theorem Tryz.lays133 : Go.Proofs.Lays.n133 Tryz.prog Tryz.lays133_ren := {
 mixed := by kernel_rfl
 f128 := Tryz.func161.trans (congrArg some (by kernel_rfl))
 f133 := Tryz.func237.trans (congrArg some (by kernel_rfl))
 t3 := Tryz.underlying3
 a3 := Tryz.isAgg3
 z3 := Tryz.sizeOf3
 v3 := Tryz.zeroValue3
 t4 := Tryz.underlying4
 a4 := Tryz.isAgg4
 z4 := Tryz.sizeOf4
 v4 := Tryz.zeroValue4
 t5 := Tryz.underlying5
 a5 := Tryz.isAgg5
 z5 := Tryz.sizeOf5
 v5 := Tryz.zeroValue5
 t9 := Tryz.underlying9
 a9 := Tryz.isAgg9
 z9 := Tryz.sizeOf9
 v9 := Tryz.zeroValue9
 t46 := Tryz.underlying128
 a46 := Tryz.isAgg128
 z46 := Tryz.sizeOf128
 v46 := Tryz.zeroValue128
 t51 := Tryz.underlying145
 a51 := Tryz.isAgg145
 z51 := Tryz.sizeOf145
 v51 := Tryz.zeroValue145 }
/-- bits.LeadingZeros32: "LeadingZeros32 returns the number of leading zero bits in x; the result is 32 for x == 0.": IT RETURNS '32 - Lib.bitLen x'; the world is as it was. ITS CALLEE bits.Len32 IS MET BY ITS OWN CONTRACT OFF THE SHELF (lay that first): entered in place it sends the kernel out of memory. (LAID: no walk: one application.) -/
theorem Tryz.bits_LeadingZeros32 (x : Int) (w : World) (h0 : 0 ≤ x) (h1 : x ≤ 4294967295) :
    Calls Tryz.prog 237 #[.int .u32 x] w fun e w' => e = .returned (.int .i64 (32 - (Lib.bitLen x.toNat : Int))) ∧ w' = w := Any.bits_LeadingZeros32 Tryz.lays133 x w h0 h1
def Tryz.laysM171_ren : Go.Shelf.Ren := ⟨fun | 171 => 181 | 243 => 215 | 246 => 234 | 283 => 246 | 284 => 247 | 285 => 248 | 286 => 249 | 129 => 162 | 317 => 257 | 318 => 258 | 319 => 259 | 320 => 260 | 337 => 263 | 338 => 264 | n => n, fun | 3 => 3 | 9 => 9 | 2 => 2 | 4 => 4 | 171 => 336 | 0 => 0 | 53 => 143 | 37 => 22 | 5 => 5 | 173 => 338 | 212 => 348 | 51 => 145 | 20 => 20 | 213 => 349 | 46 => 128 | 232 => 351 | 233 => 352 | n => n, fun | 17 => 3 | 18 => 5 | 19 => 6 | n => n⟩
theorem Tryz.laysM171 : Go.Proofs.LaysM.n171 Tryz.prog Tryz.laysM171_ren := {
 mixed := by kernel_rfl
 f129 := Tryz.func162.trans (congrArg some (by kernel_rfl))
 f171 := Tryz.func181.trans (congrArg some (by kernel_rfl))
 f243 := Tryz.func215.trans (congrArg some (by kernel_rfl))
 f246 := Tryz.func234.trans (congrArg some (by kernel_rfl))
 f283 := Tryz.func246.trans (congrArg some (by kernel_rfl))
 f284 := Tryz.func247.trans (congrArg some (by kernel_rfl))
 f285 := Tryz.func248.trans (congrArg some (by kernel_rfl))
 f286 := Tryz.func249.trans (congrArg some (by kernel_rfl))
 f317 := Tryz.func257.trans (congrArg some (by kernel_rfl))
 f318 := Tryz.func258.trans (congrArg some (by kernel_rfl))
 f319 := Tryz.func259.trans (congrArg some (by kernel_rfl))
 f320 := Tryz.func260.trans (congrArg some (by kernel_rfl))
 f337 := Tryz.func263.trans (congrArg some (by kernel_rfl))
 f338 := Tryz.func264.trans (congrArg some (by kernel_rfl))
 t0 := Tryz.underlying0
 a0 := Tryz.isAgg0
 z0 := Tryz.sizeOf0
 v0 := Tryz.zeroValue0
 t2 := Tryz.underlying2
 a2 := Tryz.isAgg2
 z2 := Tryz.sizeOf2
 v2 := Tryz.zeroValue2
 t3 := Tryz.underlying3
 a3 := Tryz.isAgg3
 z3 := Tryz.sizeOf3
 v3 := Tryz.zeroValue3
 t4 := Tryz.underlying4
 a4 := Tryz.isAgg4
 z4 := Tryz.sizeOf4
 v4 := Tryz.zeroValue4
 t5 := Tryz.underlying5
 a5 := Tryz.isAgg5
 z5 := Tryz.sizeOf5
 v5 := Tryz.zeroValue5
 t9 := Tryz.underlying9
 a9 := Tryz.isAgg9
 z9 := Tryz.sizeOf9
 v9 := Tryz.zeroValue9
 t20 := Tryz.underlying20
 a20 := Tryz.isAgg20
 z20 := Tryz.sizeOf20
 v20 := Tryz.zeroValue20
 t37 := Tryz.underlying22
 a37 := Tryz.isAgg22
 z37 := Tryz.sizeOf22
 v37 := Tryz.zeroValue22
 t46 := Tryz.underlying128
 a46 := Tryz.isAgg128
 z46 := Tryz.sizeOf128
 v46 := Tryz.zeroValue128
 t51 := Tryz.underlying145
 a51 := Tryz.isAgg145
 z51 := Tryz.sizeOf145
 v51 := Tryz.zeroValue145
 t53 := Tryz.underlying143
 a53 := Tryz.isAgg143
 z53 := Tryz.sizeOf143
 v53 := Tryz.zeroValue143
 t171 := Tryz.underlying336
 a171 := Tryz.isAgg336
 z171 := Tryz.sizeOf336
 v171 := Tryz.zeroValue336
 t173 := Tryz.underlying338
 a173 := Tryz.isAgg338
 z173 := Tryz.sizeOf338
 v173 := Tryz.zeroValue338
 t212 := Tryz.underlying348
 a212 := Tryz.isAgg348
 z212 := Tryz.sizeOf348
 v212 := Tryz.zeroValue348
 t213 := Tryz.underlying349
 a213 := Tryz.isAgg349
 z213 := Tryz.sizeOf349
 t232 := Tryz.underlying351
 a232 := Tryz.isAgg351
 z232 := Tryz.sizeOf351
 v232 := Tryz.zeroValue351
 t233 := Tryz.underlying352
 a233 := Tryz.isAgg352
 z233 := Tryz.sizeOf352
 v233 := Tryz.zeroValue352
 g17 := by kernel_rfl
 g18 := by kernel_rfl
 g19 := by kernel_rfl
 i0 := by kernel_rfl
 i2 := by kernel_rfl
 i3 := by kernel_rfl
 i4 := by kernel_rfl
 i5 := by kernel_rfl
 i9 := by kernel_rfl
 i20 := by kernel_rfl
 i37 := by kernel_rfl
 i46 := by kernel_rfl
 i51 := by kernel_rfl
 i53 := by kernel_rfl
 i171 := by kernel_rfl
 i173 := by kernel_rfl
 i212 := by kernel_rfl
 i232 := by kernel_rfl
 i233 := by kernel_rfl
 m17 := by kernel_rfl
 m18 := by kernel_rfl
 m19 := by kernel_rfl }
open Go.RowKit Go.Sort Go.Lib in
/-- strconv.Itoa: "Itoa is equivalent to FormatInt(int64(i), 10).": i's DECIMAL NUMERAL ('Lib.itoa': a '-' where i is negative, then the digits), FOR EVERY int. The world behind the call: the world before it, new blocks behind the heap (the library's 'var a [24]byte'), draws. (LAID: no walk: one application.) -/
theorem Tryz.strconv_Itoa (n : Int) (h0 : -9223372036854775808 ≤ n) (h1 : n ≤ 9223372036854775807) (w : World) (htab : Lib.TabIs Tryz.prog w "internal/strconv.uint64pow10" .u64 Lib.pow10Tab) :
    Calls Tryz.prog 181 #[.int .i64 n] w fun e w' => e = .returned (.string ⟨(Lib.itoa n).toArray⟩) ∧ ∃ k os, w' = grow (w.drewN k) os := Any.strconv_Itoa Tryz.laysM171 n h0 h1 w htab
def Tryz.lays217_ren : Go.Shelf.Ren := ⟨fun | 217 => 253 | 266 => 261 | n => n, fun | 9 => 9 | 5 => 5 | 3 => 3 | n => n, fun | n => n⟩
theorem Tryz.lays217 : Go.Proofs.Lays.n217 Tryz.prog Tryz.lays217_ren := {
 mixed := by kernel_rfl
 f217 := Tryz.func253.trans (congrArg some (by kernel_rfl))
 f266 := Tryz.func261.trans (congrArg some (by kernel_rfl))
 t3 := Tryz.underlying3
 a3 := Tryz.isAgg3
 z3 := Tryz.sizeOf3
 v3 := Tryz.zeroValue3
 t5 := Tryz.underlying5
 a5 := Tryz.isAgg5
 z5 := Tryz.sizeOf5
 v5 := Tryz.zeroValue5
 t9 := Tryz.underlying9
 a9 := Tryz.isAgg9
 z9 := Tryz.sizeOf9
 v9 := Tryz.zeroValue9 }
open Go.RowKit Go.Lib in
/-- internal/stringslite.IndexByte (what strings.IndexByte calls): IT RETURNS 'Lib.indexByte s c'; the world is as it was. (LAID: no walk: one application.) -/
theorem Tryz.stringslite_IndexByte (s : ByteArray) (c : Int) (w : World) :
    Calls Tryz.prog 253 #[.string s, .int .u8 c] w fun e w' => e = .returned (.int .i64 (Lib.indexByte s.data.toList c.toNat.toUInt8)) ∧ w' = w := Any.stringslite_IndexByte Tryz.lays217 s c w
end Go.Proofs
namespace Go.Proofs.YtkeikfekkdplgaaGreatDoor
open Go Go.RowKit

/-- What the loop of divWord keeps: the words from k on are done, r is the rest. -/
def DivInv (w0 : World) (g N d : Nat) (A : List Nat) (k r : Nat) (wr : World) : Prop :=
  ∃ ys, Own wr g ys ∧ ys.length = N ∧ (∀ i, ys.getD i 0 < 4294967296) ∧ d * natVal ys + r * 4294967296 ^ k + pv A k = natVal A ∧ (∀ i, i < k → ys.getD i 0 = 0) ∧ Ext w0 wr

theorem DivInv.start {w0 wr : World} {g n d : Nat} {A : List Nat} (h : Own wr g (List.replicate n 0)) (he : Ext w0 wr) (hl : A.length = n) : DivInv w0 g n d A n 0 wr :=
  ⟨_, h, by simp, fun i => by rw [getD_zeros]; omega, by rw [natVal_zeros, pv_all A n (Nat.le_of_eq hl)]; simp, fun i _ => getD_zeros _ _, he⟩
theorem DivInv.fin {w0 wr : World} {g N d r : Nat} {A : List Nat} (h : DivInv w0 g N d A 0 r wr) (hN : N ≤ 140737488355328) (hr : r < d) :
    (∃ ys, Wd wr (some ⟨g, 0, none⟩) N N ys ∧ natVal ys = natVal A / d) ∧ r = natVal A % d ∧ Ext w0 wr := by
  obtain ⟨ys, h1, h2, h3, h4, h5, h7⟩ := h
  have hw := h1.wd h3 N (Nat.le_of_eq h2) hN
  rw [h2] at hw
  simp only [pv, Nat.pow_zero, Nat.mul_one, Nat.add_zero] at h4
  refine ⟨⟨ys, hw, ?_⟩, ?_, h7⟩
  · rw [← h4, Nat.mul_add_div (by omega), Nat.div_eq_of_lt hr, Nat.add_zero]
  · rw [← h4, Nat.mul_add_mod, Nat.mod_eq_of_lt hr]
theorem DivInv.step {w0 wr : World} {g N d k r : Nat} {A : List Nat} (h : DivInv w0 g N d A (k + 1) r wr) (hk : k < N) (hg : w0.heap.size ≤ g) (hr : r < d) (hA : A.getD k 0 < 4294967296) :
    Ext w0 wr ∧ g < wr.heap.size ∧
      ∀ w2, Ext wr w2 → (∃ o : Nat, w2.cell? ⟨g, k, none⟩ = some (.int .u32 o)) ∧ w2.frozen? ⟨g, k, none⟩ = false ∧
        DivInv w0 g N d A k ((r * 4294967296 + A.getD k 0) % d) (w2.setCell ⟨g, k, none⟩ (.int .u32 (((r * 4294967296 + A.getD k 0) / d : Nat) : Int))) := by
  obtain ⟨ys, h1, h2, h3, h4, h5, h7⟩ := h
  refine ⟨h7, h1.lt, fun w2 e2 => ⟨⟨_, (h1.ext e2).cell _ (by omega)⟩, (h1.ext e2).free _, ?_⟩⟩
  have hq : (r * 4294967296 + A.getD k 0) / d < 4294967296 := Nat.div_lt_of_lt_mul (by have := Nat.mul_le_mul_right 4294967296 (show r + 1 ≤ d from hr); omega)
  refine ⟨_, (h1.ext e2).set _ _, by simpa using h2, fun j => ?_, ?_, fun j hj => ?_, (h7.trans e2).set hg _⟩
  · rw [getD_set _ _ _ _ (by omega)]; split
    · exact hq
    · exact h3 j
  · have e := natVal_set ys k ((r * 4294967296 + A.getD k 0) / d) (by omega)
    rw [h5 k (by omega), Nat.mul_zero, Nat.add_zero] at e
    rw [e]
    have e3 := Nat.div_add_mod (r * 4294967296 + A.getD k 0) d
    rw [pv] at h4
    generalize (r * 4294967296 + A.getD k 0) / d = q at *
    generalize (r * 4294967296 + A.getD k 0) % d = t at *
    have e4 : 4294967296 ^ k * (d * q + t) = 4294967296 ^ k * (r * 4294967296 + A.getD k 0) := by rw [e3]
    rw [Nat.pow_succ] at h4
    grind
  · rw [getD_set _ _ _ _ (by omega), if_neg (by omega)]; exact h5 j (by omega)

/-- Hands back a natural and a word. -/
def RDivW (w0 : World) (k m r : Nat) (e : Ending) (w' : World) : Prop :=
  ∃ ao n cap, e = .returned (.tuple #[.slice ao n cap, .int .u32 (r : Nat)]) ∧ Ext w0 w' ∧ NatAt w' k ao n cap m

set_option maxRecDepth 100000 in
set_option maxHeartbeats 1000000 in
theorem divw_wd (w : World) (a1 : Option Addr) (n1 c1 d : Nat) (A : List Nat) (h1 : Wd w a1 n1 c1 A) (s1 : n1 ≤ 1073741824) (hd0 : 0 < d) (hd : d < 4294967296) :
    Calls Tryz.prog 236 #[.slice a1 n1 c1, .int .u32 d] w (RDivW w n1 (natVal A / d) (natVal A % d)) := by
  have HA := hid h1.lt
  have HlA := hid h1.len
  have HW1 := hid h1
  have sh1 := h1.shape
  clear h1
  rcases sh1 with sh1 | ⟨b1, off1, rfl, hb1⟩
  all_goals
    go_enter Tryz.func236, Tryz.ntmps236
    go_wp2_with (at_make; refine wpl_make rfl _ _ _ rfl Tryz.underlying240 _ _ n1 rfl rfl (by omega) (by omega) (by omega) ?_; intro w1 e1 z1 o1)
    have I0 := hid (DivInv.start (d := d) o1 e1 HlA.out)
    clear o1 e1 z1
    go_loopw [7, 8] (fun r i wr => ∃ z : Int, ∃ rr : Nat, -1 ≤ z ∧ z < n1 ∧ rr < d ∧ i = .int .i64 z ∧ r = .int .u32 rr ∧ Hid (DivInv w w.heap.size n1 d A (z + 1).toNat rr wr)) (fun _ i _ => (intOf i + 1).toNat)
    case atStart => exact ⟨(n1 : Int) - 1, 0, by omega, by omega, hd0, rfl, rfl, by rw [show ((n1 : Int) - 1 + 1).toNat = n1 from by omega]; exact I0⟩
    case round =>
      clear I0
      obtain ⟨z, r, hz1, hz2, hr, rfl, rfl, hinv⟩ := hrel
      by_cases hz0 : 0 ≤ z
      · obtain ⟨j, rfl⟩ := Int.eq_ofNat_of_zero_le hz0
        first
          | (exfalso; omega)
          | (have hinv' : DivInv w w.heap.size n1 d A (j + 1) r wr := hinv.out
             obtain ⟨hext, hgl, hst⟩ := hinv'.step (by omega) (Nat.le_refl _) hr (HA.out j)
             have hcA := (HW1.out.ext hext).cell j (by omega)
             have hxl := HA.out j
             have Hst := hid hst
             clear hst hinv hinv'
             generalize A.getD j 0 = x at *
             have hmod := hid (Nat.mod_lt (r * 4294967296 + x) hd0)
             go_wp2_with (go_at_call 250; refine (div32_c r x d hr hxl hd _).mono ?_; rintro e w2 ⟨rfl, he2⟩; obtain ⟨⟨o, ho⟩, hf2, hst2⟩ := Hst.out w2 he2; have hst2 := hid hst2)
             go_roundw
             case rel => exact ⟨(j : Int) - 1, _, by omega, by omega, hmod.out, rfl, rfl, by rw [show ((j : Int) - 1 + 1).toNat = j from by omega]; exact hst2⟩
             case measure => simp [intOf])
      · obtain rfl : z = -1 := by omega
        have hv : DivInv w w.heap.size n1 d A 0 r wr := hinv.out
        obtain ⟨⟨zs, hz1, hz2⟩, hz4, hz3⟩ := hv.fin (by omega) hr
        have Hz2 := hid hz2
        have Hz4 := hid hz4
        clear hinv hv hz2 hz4
        go_wp2_with (go_at_call 178; refine (trim_c _ _ _ _ _ hz1).mono ?_; rintro e w3 ⟨ao, n, cap, rfl, he, hn⟩)
        go_ret2
        exact ⟨ao, n, cap, by rw [← Hz4.out]; rfl, hz3.trans he, Hz2.out ▸ hn⟩

theorem divw_c (w : World) (a1 : Option Addr) (n1 c1 d k1 x : Nat) (h1 : NatAt w k1 a1 n1 c1 x) (s1 : k1 ≤ 1073741824) (hd0 : 0 < d) (hd : d < 4294967296) :
    Calls Tryz.prog 236 #[.slice a1 n1 c1, .int .u32 d] w (RDivW w k1 (x / d) (x % d)) := by
  obtain ⟨xs, h1, l1, _, rfl⟩ := h1
  refine (divw_wd w a1 n1 c1 d xs h1 (by omega) hd0 hd).mono ?_
  rintro e w' ⟨ao, n, cap, he, hx, hn⟩
  exact ⟨ao, n, cap, he, hx, hn.mono (by omega)⟩

/-- How many binary digits: 0 has none. -/
def bitLen (m : Nat) : Nat := if m = 0 then 0 else m.log2 + 1
theorem bitLen_eq (x k : Nat) (h1 : 2 ^ k ≤ x) (h2 : x < 2 ^ (k + 1)) : bitLen x = k + 1 := by
  have hp : 0 < 2 ^ k := Nat.pos_of_ne_zero (by simp)
  have h0 : x ≠ 0 := by omega
  have a := (Nat.le_log2 h0).2 h1
  have b := (Nat.log2_lt h0).2 h2
  simp [bitLen, h0]; omega
theorem bitLen_bounds (x : Nat) (h : x ≠ 0) : ∃ k, bitLen x = k + 1 ∧ 2 ^ k ≤ x ∧ x < 2 ^ (k + 1) :=
  ⟨x.log2, by simp [bitLen, h], (Nat.le_log2 h).1 (Nat.le_refl _), (Nat.log2_lt h).1 (Nat.lt_succ_self _)⟩
theorem lib_bitLen (x : Nat) (hx : x < 4294967296) : Lib.bitLen x = bitLen x ∧ bitLen x ≤ 32 := by
  have e : Lib.bitLen x = bitLen x := by
    rcases Nat.eq_zero_or_pos x with h | h
    · subst h; rfl
    · obtain ⟨a, b, c⟩ := Lib.bitLenAux_bounds 64 x (by omega) (by omega)
      obtain ⟨k, hk⟩ : ∃ k, Lib.bitLenAux 64 x = k + 1 := ⟨Lib.bitLenAux 64 x - 1, by omega⟩
      rw [hk] at b c
      rw [bitLen_eq x k b c]; exact hk
  exact ⟨e, e ▸ Lib.bitLen_le x 32 (by omega) hx⟩
theorem bitLen_natVal (xs : List Nat) (n : Nat) (hl : xs.length = n + 1) (hx : ∀ i, xs.getD i 0 < 4294967296) (hz : xs.getD n 0 ≠ 0) : bitLen (natVal xs) = 32 * n + bitLen (xs.getD n 0) := by
  obtain ⟨k, h1, h2, h3⟩ := bitLen_bounds _ hz
  have e := pv_all xs (n + 1) (Nat.le_of_eq hl)
  have hp := pv_lt xs hx n
  rw [pv] at e
  rw [h1, ← e, ← Nat.add_assoc]
  have eB : 4294967296 ^ n = 2 ^ (32 * n) := by rw [Nat.pow_mul]
  have a1 : 4294967296 ^ n * 2 ^ k ≤ 4294967296 ^ n * xs.getD n 0 := Nat.mul_le_mul_left _ h2
  have a2 : 4294967296 ^ n * (xs.getD n 0 + 1) ≤ 4294967296 ^ n * 2 ^ (k + 1) := Nat.mul_le_mul_left _ h3
  rw [Nat.mul_add, Nat.mul_one] at a2
  apply bitLen_eq
  · rw [Nat.pow_add, ← eB]; omega
  · rw [Nat.add_assoc, Nat.pow_add, ← eB]; omega

set_option maxHeartbeats 400000 in
theorem bits_c (w : World) (a1 : Option Addr) (n1 c1 k1 x : Nat) (h1 : NatAt w k1 a1 n1 c1 x) (s1 : k1 ≤ 1073741824) :
    Calls Tryz.prog 221 #[.slice a1 n1 c1] w (RSame w (.int .i64 (bitLen x : Nat))) := by
  obtain ⟨xs, h1, l1, hz, rfl⟩ := h1
  have hlen := h1.len
  have hlt := h1.lt
  rcases Nat.eq_zero_or_pos n1 with h0 | h0
  · have hv : bitLen (natVal xs) = 0 := by
      have : xs = [] := List.eq_nil_of_length_eq_zero (by omega)
      subst this; rfl
    rw [hv]
    subst h0
    clear h1 hz hlen hlt hv
    go_enter Tryz.func221, Tryz.ntmps221
    go_wp2
    go_ret
    exact ⟨rfl, rfl⟩
  · obtain ⟨m, rfl⟩ : ∃ m, n1 = m + 1 := ⟨n1 - 1, by omega⟩
    have hz := hz (by omega)
    simp only [Nat.add_sub_cancel] at hz
    have hv := hid (bitLen_natVal xs m hlen hlt hz)
    rcases h1.shape with h | ⟨b, off, rfl, hb⟩
    · omega
    have hc := h1.cell m (by omega)
    have hx := hlt m
    clear h1 hlen hlt hz
    generalize xs.getD m 0 = x at *
    obtain ⟨hL, hbl⟩ := lib_bitLen x hx
    go_enter Tryz.func221, Tryz.ntmps221
    go_wp2_with (go_at_call 161; refine (Tryz.bits_Len32 _ _ (by omega) (by omega)).mono ?_; rintro e w' ⟨rfl, rfl⟩)
    go_ret
    exact RSame.mk' (by rw [hv.out]; simp)
end Go.Proofs.YtkeikfekkdplgaaGreatDoor
namespace Go.Proofs.YtkeikfekkdplgaaGreatDoor

/-- q V W is at most N: then q v1 is at most the first two digits. -/
theorem guess_ge (q V W Nu lo P x0 first v1 v2 V0 : Nat) (hq : q * (V * W) ≤ Nu) (hN : Nu = lo + W * P * (x0 + 4294967296 * first)) (hlo : lo < W * P) (hx0 : x0 < 4294967296)
    (hV : V = V0 + P * (v2 + 4294967296 * v1)) : q * v1 ≤ first := by
  apply Nat.le_of_not_lt
  intro h
  have h1 : W * P * (4294967296 * (first + 1)) ≤ W * P * (4294967296 * (q * v1)) := Nat.mul_le_mul_left _ (by omega)
  have h2 : W * P * (x0 + 4294967296 * first + 1) ≤ W * P * (4294967296 * (first + 1)) := Nat.mul_le_mul_left _ (by omega)
  have h3 : q * (V * W) = W * (q * V0) + W * P * (q * v2) + W * P * (4294967296 * (q * v1)) := by subst hV; grind
  have h4 : W * P * (x0 + 4294967296 * first + 1) = W * P * (x0 + 4294967296 * first) + W * P := by rw [Nat.mul_add, Nat.mul_one]
  generalize W * P * (4294967296 * (q * v1)) = a1 at *
  generalize W * P * (4294967296 * (first + 1)) = a2 at *
  generalize W * P * (x0 + 4294967296 * first) = a3 at *
  omega
/-- A guess that fails the test with the third digit is too great. -/
theorem guess_dec (q g r V W Nu lo P x0 first v1 v2 V0 : Nat) (hq : q * (V * W) ≤ Nu) (hN : Nu = lo + W * P * (x0 + 4294967296 * first)) (hlo : lo < W * P)
    (hV : V = V0 + P * (v2 + 4294967296 * v1)) (hqg : q ≤ g) (hg : g * v1 + r = first) (ht : r * 4294967296 + x0 < g * v2) : q + 1 ≤ g := by
  rcases Nat.lt_or_ge q g with h | h
  · exact h
  · exfalso
    obtain rfl : q = g := by omega
    have h1 : q * (V * W) = W * (q * V0) + W * P * (q * v2 + 4294967296 * (q * v1)) := by subst hV; grind
    have h2 : x0 + 4294967296 * first + 1 ≤ q * v2 + 4294967296 * (q * v1) := by
      generalize q * v1 = a at *
      generalize q * v2 = b at *
      omega
    have h3 := Nat.mul_le_mul_left (W * P) h2
    rw [Nat.mul_add _ _ 1, Nat.mul_one] at h3
    generalize W * P * (q * v2 + 4294967296 * (q * v1)) = a1 at *
    generalize W * P * (x0 + 4294967296 * first) = a3 at *
    omega
theorem digit_lt (q X Nu : Nat) (hq : q * X ≤ Nu) (hN : Nu < X * 4294967296) : q < 4294967296 := by
  apply Nat.lt_of_not_le
  intro h
  have := Nat.mul_le_mul_right X h
  rw [Nat.mul_comm 4294967296] at this
  omega
/-- A guess that passes the test is at most one too great. -/
theorem guess_le (g r V W Nu lo P x0 first v1 v2 V0 : Nat) (hN : Nu = lo + W * P * (x0 + 4294967296 * first)) (hV : V = V0 + P * (v2 + 4294967296 * v1)) (hV0 : V0 < P)
    (hg : g * v1 + r = first) (ht : g * v2 ≤ r * 4294967296 + x0) (hgB : g ≤ 4294967296) (hv1 : 0 < v1) : g * (V * W) ≤ Nu + V * W := by
  have h1 : g * (V * W) = W * (g * V0) + W * P * (g * v2 + 4294967296 * (g * v1)) := by subst hV; grind
  have h2 : g * v2 + 4294967296 * (g * v1) ≤ x0 + 4294967296 * first := by
    generalize g * v1 = a at *
    generalize g * v2 = b at *
    omega
  have h3 := Nat.mul_le_mul_left (W * P) h2
  have h4 : W * (g * V0) ≤ W * (4294967296 * P) := Nat.mul_le_mul_left _ (Nat.mul_le_mul hgB (by omega))
  have h5 : W * (4294967296 * P) ≤ V * W := by
    rw [Nat.mul_comm V]
    apply Nat.mul_le_mul_left
    rw [hV, Nat.mul_comm _ P]
    have : P * 4294967296 ≤ P * (v2 + 4294967296 * v1) := Nat.mul_le_mul_left _ (by omega)
    omega
  generalize W * (g * V0) = a1 at *
  generalize W * (4294967296 * P) = a2 at *
  generalize W * P * (g * v2 + 4294967296 * (g * v1)) = a3 at *
  generalize W * P * (x0 + 4294967296 * first) = a4 at *
  omega
theorem first_le (V W Nu lo P x0 x1 x2 v1 v2 V0 : Nat) (hN : Nu = lo + W * P * (x0 + 4294967296 * (x2 * 4294967296 + x1))) (hlt : Nu < V * W * 4294967296) (hV : V = V0 + P * (v2 + 4294967296 * v1)) (hV0 : V0 < P)
    (hv2 : v2 < 4294967296) : x2 ≤ v1 := by
  apply Nat.le_of_not_lt
  intro h
  have h1 : V < P * (4294967296 * (v1 + 1)) := by
    have : P * (v2 + 4294967296 * v1 + 1) ≤ P * (4294967296 * (v1 + 1)) := Nat.mul_le_mul_left _ (by omega)
    rw [Nat.mul_add _ _ 1, Nat.mul_one] at this
    omega
  have h2 : V * W * 4294967296 ≤ P * (4294967296 * (v1 + 1)) * W * 4294967296 := Nat.mul_le_mul_right _ (Nat.mul_le_mul_right _ (Nat.le_of_lt h1))
  have h3 : W * P * (4294967296 * ((v1 + 1) * 4294967296)) ≤ W * P * (x0 + 4294967296 * (x2 * 4294967296 + x1)) := Nat.mul_le_mul_left _ (by omega)
  have h4 : P * (4294967296 * (v1 + 1)) * W * 4294967296 = W * P * (4294967296 * ((v1 + 1) * 4294967296)) := by grind
  omega
theorem guess_small (g r first v1 x1 x2 : Nat) (hg : g * v1 + r = first) (hf : first = x2 * 4294967296 + x1) (hx1 : x1 < 4294967296) (hx2 : x2 ≤ v1) (hr : 4294967296 ≤ r) : g < 4294967296 := by
  apply Nat.lt_of_not_le
  intro h
  have h1 : 4294967296 * v1 ≤ g * v1 := Nat.mul_le_mul_right _ h
  have h2 : x2 * 4294967296 ≤ v1 * 4294967296 := Nat.mul_le_mul_right _ hx2
  omega
theorem guess_final (g q X Nu : Nat) (h1 : g * X ≤ Nu + X) (h2 : Nu < (q + 1) * X) : g ≤ q + 1 := by
  apply Nat.le_of_not_lt
  intro h
  have := Nat.mul_le_mul_right X (show q + 2 ≤ g by omega)
  rw [Nat.add_mul] at *
  omega
theorem prod2_lt (g v : Nat) (hg : g < 4294967296) (hv : v < 4294967296) : g * v ≤ 18446744065119617025 := by
  have := Nat.mul_le_mul (show g ≤ 4294967295 by omega) (show v ≤ 4294967295 by omega)
  omega

/-- A step of 'multiply and subtract': old word x, word of the divisor y, carry c, borrow b. -/
theorem ms_step (Nu U G g k j x y c b t q s o : Nat) (hinv : U + g * (G * 4294967296 ^ j) = Nu + 4294967296 ^ (j + k) * (b + c)) (ht : t = g * y + c) (hq : q = t / 4294967296)
    (hs : s + t % 4294967296 + b = x + 4294967296 * o) (U' : Nat) (hU : U' + 4294967296 ^ (j + k) * x = U + 4294967296 ^ (j + k) * s) :
    U' + g * ((G + 4294967296 ^ k * y) * 4294967296 ^ j) = Nu + 4294967296 ^ (j + (k + 1)) * (o + q) := by
  have h : 4294967296 * q + t % 4294967296 = g * y + c := by rw [hq, ← ht]; omega
  generalize t % 4294967296 = m at *
  rw [Nat.pow_add] at *
  rw [Nat.pow_succ]
  have h1 : 4294967296 ^ j * 4294967296 ^ k * (s + m + b) = 4294967296 ^ j * 4294967296 ^ k * (x + 4294967296 * o) := by rw [hs]
  have h2 : 4294967296 ^ j * 4294967296 ^ k * (4294967296 * q + m) = 4294967296 ^ j * 4294967296 ^ k * (g * y + c) := by rw [h]
  grind
/-- The last word of 'multiply and subtract'. -/
theorem ms_last (Nu U V g n j x c b s o : Nat) (hinv : U + g * (V * 4294967296 ^ j) = Nu + 4294967296 ^ (j + n) * (b + c)) (hs : s + c + b = x + 4294967296 * o)
    (U' : Nat) (hU : U' + 4294967296 ^ (j + n) * x = U + 4294967296 ^ (j + n) * s) :
    U' + g * (V * 4294967296 ^ j) = Nu + 4294967296 ^ (j + n + 1) * o := by
  have h1 : 4294967296 ^ (j + n) * (s + c + b) = 4294967296 ^ (j + n) * (x + 4294967296 * o) := by rw [hs]
  rw [Nat.pow_succ]
  grind
/-- A step of 'add back'. -/
theorem ab_step (M U G k j x y c t q s : Nat) (hinv : U + 4294967296 ^ (j + k) * c = M + G * 4294967296 ^ j) (ht : t = x + y + c) (hq : q = t / 4294967296) (hs : s = t % 4294967296)
    (U' : Nat) (hU : U' + 4294967296 ^ (j + k) * x = U + 4294967296 ^ (j + k) * s) :
    U' + 4294967296 ^ (j + (k + 1)) * q = M + (G + 4294967296 ^ k * y) * 4294967296 ^ j := by
  have h : 4294967296 * q + s = x + y + c := by rw [hq, hs, ← ht]; omega
  have h2 : 4294967296 ^ (j + k) * (4294967296 * q + s) = 4294967296 ^ (j + k) * (x + y + c) := by rw [h]
  rw [← Nat.add_assoc, Nat.pow_succ]
  rw [Nat.pow_add] at *
  grind
/-- The last word of 'add back': the carry runs out at the top. -/
theorem ab_last (Nu M U V W T L g x c s : Nat) (hM : M + g * (V * W) = Nu + T * 4294967296) (hinv : U + T * c = M + V * W) (hg : (g - 1) * (V * W) ≤ Nu) (hg1 : 1 ≤ g) (hL : U = L + T * x) (hLT : L < T)
    (hx : x < 4294967296) (hc : c ≤ 1) (hs : s = (x + c) % 4294967296) (U' : Nat) (hU : U' + T * x = U + T * s) : U' + (g - 1) * (V * W) = Nu := by
  obtain ⟨h, rfl⟩ : ∃ h, g = h + 1 := ⟨g - 1, by omega⟩
  simp only [Nat.add_sub_cancel] at *
  rw [Nat.add_mul, Nat.one_mul] at hM
  generalize V * W = X at *
  generalize h * X = Y at *
  have h1 : T * 4294967296 ≤ L + T * (x + c) := by rw [Nat.mul_add]; omega
  have h2 : 4294967296 ≤ x + c := by
    apply Nat.le_of_not_lt
    intro hh
    have := Nat.mul_le_mul_left T (show x + c + 1 ≤ 4294967296 by omega)
    rw [Nat.mul_add _ _ 1, Nat.mul_one] at this
    omega
  have h3 : x + c = 4294967296 := by omega
  have h4 : s = 0 := by rw [hs, h3]
  have h5 : T * (x + c) = T * 4294967296 := by rw [h3]
  rw [Nat.mul_add] at h5
  rw [h4, Nat.mul_zero] at hU
  omega
/-- No borrow is left if the guess is not too great, and one if it is. -/
theorem ms_borrow (Nu M g q X T b : Nat) (h : M + g * X = Nu + T * b) (hM : M < T) (hq : q * X ≤ Nu) (hq1 : Nu < (q + 1) * X) (hqg : q ≤ g) (hg : g ≤ q + 1) (hb : b ≤ 1) : (b = 0 → g = q) ∧ (b = 1 → g = q + 1) := by
  refine ⟨fun h0 => ?_, fun h1 => ?_⟩
  · subst h0
    rcases Nat.lt_or_ge q g with hlt | hge
    · obtain rfl : g = q + 1 := by omega
      omega
    · omega
  · subst h1
    rcases Nat.lt_or_ge q g with hlt | hge
    · omega
    · obtain rfl : g = q := by omega
      omega
theorem pv_zero_above (xs : List Nat) (k : Nat) (h : ∀ i, k ≤ i → xs.getD i 0 = 0) : pv xs k = natVal xs := by
  have key : ∀ m, pv xs (k + m) = pv xs k := fun m => by
    induction m with
    | zero => rfl
    | succ m ih => rw [← Nat.add_assoc, pv, ih, h (k + m) (by omega), Nat.mul_zero, Nat.add_zero]
  rw [← key xs.length, pv_all xs _ (by omega)]
theorem zero_above (xs : List Nat) (k : Nat) (h : natVal xs < 4294967296 ^ k) : ∀ i, k ≤ i → xs.getD i 0 = 0 := by
  intro i hi
  rcases Nat.eq_zero_or_pos (xs.getD i 0) with h0 | h0
  · exact h0
  · exfalso
    have hil : i < xs.length := by
      rcases Nat.lt_or_ge i xs.length with h1 | h1
      · exact h1
      · rw [getD_big xs i h1] at h0; omega
    have e := natVal_set xs i 0 hil
    rw [Nat.mul_zero, Nat.add_zero] at e
    have h1 : 4294967296 ^ i * 1 ≤ 4294967296 ^ i * xs.getD i 0 := Nat.mul_le_mul_left _ h0
    have h2 : 4294967296 ^ k ≤ 4294967296 ^ i := Nat.pow_le_pow_right (by omega) hi
    rw [Nat.mul_one] at h1
    omega
end Go.Proofs.YtkeikfekkdplgaaGreatDoor
