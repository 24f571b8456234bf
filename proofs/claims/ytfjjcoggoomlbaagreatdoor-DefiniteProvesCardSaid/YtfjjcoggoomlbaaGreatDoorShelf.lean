/-
  DERIVED: THE SHELF's CONTRACTS AT THIS DUMP, IN PLAIN WORDS (tools/lay-plain.mjs out of 'TryzShelf.lean', which tools/lay-shelf.mjs wrote): THE SAME DECLARATIONS UNDER THE SAME NAMES: 'import', 'namespace', 'open', 'def', 'theorem' AND NOTHING ELSE: no command of the shelf's: FOR A HAND-IN. Each laying: the table of numbers ('.._ren') and one theorem, a field a fact of the dump's own or the kernel's comparison; each contract: ONE APPLICATION.
-/
import Derived.Shelf.Strings.Builder1
import Derived.Shelf.Strings.Builder2
import Derived.Shelf.Small.Wraps
import Derived.Shelf.Strings.BuilderF
import Derived.Shelf.Strconv.Itoa0
import Derived.Shelf.Strconv.Itoa1
import Derived.Shelf.LaysM
import Derived.Shelf.Strconv.Itoa2
import Derived.Shelf.Strconv.Itoa3
import Derived.Shelf.Strconv.Lower
import Derived.Shelf.Strconv.ParseUint10b64
import Derived.Ground.MpProg
import Derived.Shelf.Pu.ParseUintPublic10
import Derived.Shelf.Strings.Search1
import Derived.Shelf.Strings.Search2
import Derived.Shelf.Strings.Cut
import Derived.Shelf.Strings.Shaped
import Derived.Shelf.Strings.Prefix
import Derived.Shelf.Bits.Mul64
import Derived.Shelf.Strings.Repeat
import Derived.Test.YtfjjcoggoomlbaaGreatDoorProg
namespace Go.Proofs
open Go.Shelf
def Tryz.lays169_ren : Go.Shelf.Ren := ⟨fun | 169 => 174 | n => n, fun | 70 => 180 | 9 => 9 | 0 => 0 | 72 => 183 | 37 => 181 | 127 => 206 | 3 => 3 | 5 => 5 | n => n, fun | n => n⟩
theorem Tryz.lays169 : Go.Proofs.Lays.n169 Tryz.prog Tryz.lays169_ren := {
  mixed := by kernel_rfl
  f169 := Tryz.func174.trans (congrArg some (by kernel_rfl))
  t0 := Tryz.underlying0
  a0 := Tryz.isAgg0
  z0 := Tryz.sizeOf0
  v0 := Tryz.zeroValue0
  t3 := Tryz.underlying3
  a3 := Tryz.isAgg3
  z3 := Tryz.sizeOf3
  v3 := Tryz.zeroValue3
  t9 := Tryz.underlying9
  a9 := Tryz.isAgg9
  z9 := Tryz.sizeOf9
  v9 := Tryz.zeroValue9
  t37 := Tryz.underlying181
  a37 := Tryz.isAgg181
  z37 := Tryz.sizeOf181
  v37 := Tryz.zeroValue181
  t70 := Tryz.underlying180
  a70 := Tryz.isAgg180
  z70 := Tryz.sizeOf180
  v70 := Tryz.zeroValue180
  t72 := Tryz.underlying183
  a72 := Tryz.isAgg183
  z72 := Tryz.sizeOf183
  v72 := Tryz.zeroValue183
  t127 := Tryz.underlying206
  a127 := Tryz.isAgg206
  z127 := Tryz.sizeOf206
  v127 := Tryz.zeroValue206 }
theorem Tryz.Builder_Extra_169 : Builder.Extra Tryz.prog Tryz.lays169_ren := {
  sizeBuilder := by kernel_rfl
  liesBuilder := by kernel_rfl
  t5 := Tryz.underlying5
  a5 := Tryz.isAgg5
  z5 := Tryz.sizeOf5
  v5 := Tryz.zeroValue5
  infoByte := by kernel_rfl
  cellsByte := by kernel_rfl
  sizeByte := by kernel_rfl
  neB5 := by decide }
open Go.RowKit in
/-- (*strings.Builder).String: "String returns the accumulated string.": WHATEVER THE BUILDER HOLDS. (LAID: no walk: one application.) -/
theorem Tryz.Builder_String_any (B b : Nat) (l : List UInt8) (w : World) (h : Lib.IsBuilder 183 5 B b (Lib.byteCells l) w) (hBw : B ≤ w.heap.size) :
    Calls Tryz.prog 174 #[.pointer (some ⟨b, 0, none⟩)] w fun e w' => e = .returned (.string ⟨l.toArray⟩) ∧ Below B w w' := Any.Builder_String_any Tryz.lays169 Tryz.Builder_Extra_169 B b l w h hBw
def Tryz.lays103_ren : Go.Shelf.Ren := ⟨fun | 103 => 170 | 210 => 191 | 206 => 208 | n => n, fun | 9 => 9 | 4 => 4 | 24 => 174 | 3 => 3 | n => n, fun | n => n⟩
theorem Tryz.lays103 : Go.Proofs.Lays.n103 Tryz.prog Tryz.lays103_ren := {
  mixed := by kernel_rfl
  f103 := Tryz.func170.trans (congrArg some (by kernel_rfl))
  f206 := Tryz.func208.trans (congrArg some (by kernel_rfl))
  f210 := Tryz.func191.trans (congrArg some (by kernel_rfl))
  t3 := Tryz.underlying3
  a3 := Tryz.isAgg3
  z3 := Tryz.sizeOf3
  v3 := Tryz.zeroValue3
  t4 := Tryz.underlying4
  a4 := Tryz.isAgg4
  z4 := Tryz.sizeOf4
  v4 := Tryz.zeroValue4
  t9 := Tryz.underlying9
  a9 := Tryz.isAgg9
  z9 := Tryz.sizeOf9
  v9 := Tryz.zeroValue9
  t24 := Tryz.underlying174
  a24 := Tryz.isAgg174
  z24 := Tryz.sizeOf174
  v24 := Tryz.zeroValue174 }
open Go.RowKit in
/-- strings.CutPrefix: "CutPrefix returns s without the provided leading prefix string and reports whether it found the prefix. If s doesn't start with prefix, CutPrefix returns s, false. If prefix is the empty string, CutPrefix returns s, true.": IT RETURNS '(Lib.trimPrefix s p, Lib.hasPrefix s p)'; the world is as it was. (LAID: no walk: one application.) -/
theorem Tryz.strings_CutPrefix (s p : ByteArray) (w : World) :
    Calls Tryz.prog 170 #[.string s, .string p] w fun e w' => e = .returned (.tuple #[.string ⟨(Lib.trimPrefix s.data.toList p.data.toList).toArray⟩, .bool (Lib.hasPrefix s.data.toList p.data.toList)]) ∧ w' = w := Any.strings_CutPrefix Tryz.lays103 s p w
def Tryz.lays283_ren : Go.Shelf.Ren := ⟨fun | 283 => 200 | n => n, fun | 3 => 3 | 9 => 9 | 4 => 4 | n => n, fun | n => n⟩
theorem Tryz.lays283 : Go.Proofs.Lays.n283 Tryz.prog Tryz.lays283_ren := {
  mixed := by kernel_rfl
  f283 := Tryz.func200.trans (congrArg some (by kernel_rfl))
  t3 := Tryz.underlying3
  a3 := Tryz.isAgg3
  z3 := Tryz.sizeOf3
  v3 := Tryz.zeroValue3
  t4 := Tryz.underlying4
  a4 := Tryz.isAgg4
  z4 := Tryz.sizeOf4
  v4 := Tryz.zeroValue4
  t9 := Tryz.underlying9
  a9 := Tryz.isAgg9
  z9 := Tryz.sizeOf9
  v9 := Tryz.zeroValue9 }
open Go.Lib in
/-- internal/strconv.small: "small returns the string for an i with 0 <= i < nSmalls.": i's decimal numeral. The world is as it was. (LAID: no walk: one application.) -/
theorem Tryz.internal_strconv_small (i : Nat) (h : i < 100) (w : World) :
    Calls Tryz.prog 200 #[.int .i64 i] w fun e w' => e = .returned (.string ⟨(Lib.decDigits i).toArray⟩) ∧ w' = w := Any.internal_strconv_small Tryz.lays283 i h w
def Tryz.laysM284_ren : Go.Shelf.Ren := ⟨fun | 284 => 201 | 129 => 218 | 317 => 217 | 318 => 219 | n => n, fun | 53 => 169 | 3 => 3 | 212 => 224 | 0 => 0 | 4 => 4 | 46 => 154 | 5 => 5 | 9 => 9 | n => n, fun | 17 => 1 | n => n⟩
theorem Tryz.laysM284 : Go.Proofs.LaysM.n284 Tryz.prog Tryz.laysM284_ren := {
  mixed := by kernel_rfl
  f129 := Tryz.func218.trans (congrArg some (by kernel_rfl))
  f284 := Tryz.func201.trans (congrArg some (by kernel_rfl))
  f317 := Tryz.func217.trans (congrArg some (by kernel_rfl))
  f318 := Tryz.func219.trans (congrArg some (by kernel_rfl))
  t0 := Tryz.underlying0
  a0 := Tryz.isAgg0
  z0 := Tryz.sizeOf0
  v0 := Tryz.zeroValue0
  t3 := Tryz.underlying3
  a3 := Tryz.isAgg3
  z3 := Tryz.sizeOf3
  v3 := Tryz.zeroValue3
  t4 := Tryz.underlying4
  a4 := Tryz.isAgg4
  z4 := Tryz.sizeOf4
  v4 := Tryz.zeroValue4
  t5 := Tryz.underlying5
  a5 := Tryz.isAgg5
  z5 := Tryz.sizeOf5
  v5 := Tryz.zeroValue5
  t9 := Tryz.underlying9
  a9 := Tryz.isAgg9
  z9 := Tryz.sizeOf9
  v9 := Tryz.zeroValue9
  t46 := Tryz.underlying154
  a46 := Tryz.isAgg154
  z46 := Tryz.sizeOf154
  v46 := Tryz.zeroValue154
  t53 := Tryz.underlying169
  a53 := Tryz.isAgg169
  z53 := Tryz.sizeOf169
  v53 := Tryz.zeroValue169
  t212 := Tryz.underlying224
  a212 := Tryz.isAgg224
  z212 := Tryz.sizeOf224
  v212 := Tryz.zeroValue224
  g17 := by kernel_rfl
  i0 := by kernel_rfl
  i3 := by kernel_rfl
  i4 := by kernel_rfl
  i5 := by kernel_rfl
  i9 := by kernel_rfl
  i46 := by kernel_rfl
  i53 := by kernel_rfl
  i212 := by kernel_rfl
  m17 := by kernel_rfl }
open Go.Lib in
/-- internal/strconv.numDigits, at a d that is not 0: THE NUMBER OF d's DECIMAL DIGITS. The world is as it was. (LAID: no walk: one application.) -/
theorem Tryz.internal_strconv_numDigits (u : Nat) (h1 : 1 ≤ u) (h2 : u < 18446744073709551616) (w : World) (htab : Lib.TabIs Tryz.prog w "internal/strconv.uint64pow10" .u64 Lib.pow10Tab) :
    Calls Tryz.prog 201 #[.int .u64 u] w fun e w' => e = .returned (.int .i64 (Lib.nDigits u)) ∧ w' = w := Any.internal_strconv_numDigits Tryz.laysM284 u h1 h2 w htab
def Tryz.lays285_ren : Go.Shelf.Ren := ⟨fun | 285 => 202 | n => n, fun | 37 => 181 | 53 => 169 | 3 => 3 | 4 => 4 | 51 => 188 | 9 => 9 | 5 => 5 | 0 => 0 | n => n, fun | n => n⟩
theorem Tryz.lays285 : Go.Proofs.Lays.n285 Tryz.prog Tryz.lays285_ren := {
  mixed := by kernel_rfl
  f285 := Tryz.func202.trans (congrArg some (by kernel_rfl))
  t0 := Tryz.underlying0
  a0 := Tryz.isAgg0
  z0 := Tryz.sizeOf0
  v0 := Tryz.zeroValue0
  t3 := Tryz.underlying3
  a3 := Tryz.isAgg3
  z3 := Tryz.sizeOf3
  v3 := Tryz.zeroValue3
  t4 := Tryz.underlying4
  a4 := Tryz.isAgg4
  z4 := Tryz.sizeOf4
  v4 := Tryz.zeroValue4
  t5 := Tryz.underlying5
  a5 := Tryz.isAgg5
  z5 := Tryz.sizeOf5
  v5 := Tryz.zeroValue5
  t9 := Tryz.underlying9
  a9 := Tryz.isAgg9
  z9 := Tryz.sizeOf9
  v9 := Tryz.zeroValue9
  t37 := Tryz.underlying181
  a37 := Tryz.isAgg181
  z37 := Tryz.sizeOf181
  v37 := Tryz.zeroValue181
  t51 := Tryz.underlying188
  a51 := Tryz.isAgg188
  z51 := Tryz.sizeOf188
  v51 := Tryz.zeroValue188
  t53 := Tryz.underlying169
  a53 := Tryz.isAgg169
  z53 := Tryz.sizeOf169
  v53 := Tryz.zeroValue169 }
open Go.RowKit Go.Sort Go.Lib in
/-- internal/strconv.formatBase10: "formatBase10 formats the decimal representation of u into a. The caller is responsible for ensuring that a is big enough to hold u. If a is too big, leading zeros will be filled in as needed.": THE ROW HOLDS u's DIGITS ('FmtInv .. 0 ..': every place t holds 'dg u (len - 1 - t)'); all else is as it was but for the count of draws. (LAID: no walk: one application.) -/
theorem Tryz.internal_strconv_formatBase10 (blk off cap : Nat) (u : Nat) (d : Array UInt8) (w : World) (hH : Holds (fun (b : UInt8) => Value.int .u8 (b.toNat : Int)) w blk off d) (hu : u < 10 ^ d.size) (hu64 : u < 18446744073709551616) (hsz : d.size < 4611686018427387904) :
    Calls Tryz.prog 202 #[.slice (some ⟨blk, off, none⟩) d.size cap, .int .u64 u] w fun e w' =>
      e = .returned (.tuple #[]) ∧ ∃ (n v' : Nat) (dk : Array UInt8), w' = (putRow (fun (b : UInt8) => Value.int .u8 (b.toNat : Int)) w blk off dk).drewN n ∧ FmtInv d.size u 0 v' dk := Any.internal_strconv_formatBase10 Tryz.lays285 blk off cap u d w hH hu hu64 hsz
def Tryz.laysM171_ren : Go.Shelf.Ren := ⟨fun | 171 => 226 | 243 => 230 | 246 => 231 | 283 => 200 | 284 => 201 | 285 => 202 | 286 => 203 | 129 => 218 | 317 => 217 | 318 => 219 | 319 => 220 | 320 => 221 | 337 => 228 | 338 => 229 | n => n, fun | 3 => 3 | 9 => 9 | 2 => 2 | 4 => 4 | 171 => 209 | 0 => 0 | 53 => 169 | 37 => 181 | 5 => 5 | 173 => 212 | 212 => 224 | 51 => 188 | 20 => 20 | 213 => 225 | 46 => 154 | 232 => 238 | 233 => 239 | n => n, fun | 17 => 1 | 18 => 4 | 19 => 5 | n => n⟩
theorem Tryz.laysM171 : Go.Proofs.LaysM.n171 Tryz.prog Tryz.laysM171_ren := {
  mixed := by kernel_rfl
  f129 := Tryz.func218.trans (congrArg some (by kernel_rfl))
  f171 := Tryz.func226.trans (congrArg some (by kernel_rfl))
  f243 := Tryz.func230.trans (congrArg some (by kernel_rfl))
  f246 := Tryz.func231.trans (congrArg some (by kernel_rfl))
  f283 := Tryz.func200.trans (congrArg some (by kernel_rfl))
  f284 := Tryz.func201.trans (congrArg some (by kernel_rfl))
  f285 := Tryz.func202.trans (congrArg some (by kernel_rfl))
  f286 := Tryz.func203.trans (congrArg some (by kernel_rfl))
  f317 := Tryz.func217.trans (congrArg some (by kernel_rfl))
  f318 := Tryz.func219.trans (congrArg some (by kernel_rfl))
  f319 := Tryz.func220.trans (congrArg some (by kernel_rfl))
  f320 := Tryz.func221.trans (congrArg some (by kernel_rfl))
  f337 := Tryz.func228.trans (congrArg some (by kernel_rfl))
  f338 := Tryz.func229.trans (congrArg some (by kernel_rfl))
  t0 := Tryz.underlying0
  a0 := Tryz.isAgg0
  z0 := Tryz.sizeOf0
  v0 := Tryz.zeroValue0
  t2 := Tryz.underlying2
  a2 := Tryz.isAgg2
  z2 := Tryz.sizeOf2
  v2 := Tryz.zeroValue2
  t3 := Tryz.underlying3
  a3 := Tryz.isAgg3
  z3 := Tryz.sizeOf3
  v3 := Tryz.zeroValue3
  t4 := Tryz.underlying4
  a4 := Tryz.isAgg4
  z4 := Tryz.sizeOf4
  v4 := Tryz.zeroValue4
  t5 := Tryz.underlying5
  a5 := Tryz.isAgg5
  z5 := Tryz.sizeOf5
  v5 := Tryz.zeroValue5
  t9 := Tryz.underlying9
  a9 := Tryz.isAgg9
  z9 := Tryz.sizeOf9
  v9 := Tryz.zeroValue9
  t20 := Tryz.underlying20
  a20 := Tryz.isAgg20
  z20 := Tryz.sizeOf20
  v20 := Tryz.zeroValue20
  t37 := Tryz.underlying181
  a37 := Tryz.isAgg181
  z37 := Tryz.sizeOf181
  v37 := Tryz.zeroValue181
  t46 := Tryz.underlying154
  a46 := Tryz.isAgg154
  z46 := Tryz.sizeOf154
  v46 := Tryz.zeroValue154
  t51 := Tryz.underlying188
  a51 := Tryz.isAgg188
  z51 := Tryz.sizeOf188
  v51 := Tryz.zeroValue188
  t53 := Tryz.underlying169
  a53 := Tryz.isAgg169
  z53 := Tryz.sizeOf169
  v53 := Tryz.zeroValue169
  t171 := Tryz.underlying209
  a171 := Tryz.isAgg209
  z171 := Tryz.sizeOf209
  v171 := Tryz.zeroValue209
  t173 := Tryz.underlying212
  a173 := Tryz.isAgg212
  z173 := Tryz.sizeOf212
  v173 := Tryz.zeroValue212
  t212 := Tryz.underlying224
  a212 := Tryz.isAgg224
  z212 := Tryz.sizeOf224
  v212 := Tryz.zeroValue224
  t213 := Tryz.underlying225
  a213 := Tryz.isAgg225
  z213 := Tryz.sizeOf225
  t232 := Tryz.underlying238
  a232 := Tryz.isAgg238
  z232 := Tryz.sizeOf238
  v232 := Tryz.zeroValue238
  t233 := Tryz.underlying239
  a233 := Tryz.isAgg239
  z233 := Tryz.sizeOf239
  v233 := Tryz.zeroValue239
  g17 := by kernel_rfl
  g18 := by kernel_rfl
  g19 := by kernel_rfl
  i0 := by kernel_rfl
  i2 := by kernel_rfl
  i3 := by kernel_rfl
  i4 := by kernel_rfl
  i5 := by kernel_rfl
  i9 := by kernel_rfl
  i20 := by kernel_rfl
  i37 := by kernel_rfl
  i46 := by kernel_rfl
  i51 := by kernel_rfl
  i53 := by kernel_rfl
  i171 := by kernel_rfl
  i173 := by kernel_rfl
  i212 := by kernel_rfl
  i232 := by kernel_rfl
  i233 := by kernel_rfl
  m17 := by kernel_rfl
  m18 := by kernel_rfl
  m19 := by kernel_rfl }
open Go.RowKit Go.Sort Go.Lib in
/-- strconv.Itoa: "Itoa is equivalent to FormatInt(int64(i), 10).": i's DECIMAL NUMERAL ('Lib.itoa': a '-' where i is negative, then the digits), FOR EVERY int. The world behind the call: the world before it, new blocks behind the heap (the library's 'var a [24]byte'), draws. (LAID: no walk: one application.) -/
theorem Tryz.strconv_Itoa (n : Int) (h0 : -9223372036854775808 ≤ n) (h1 : n ≤ 9223372036854775807) (w : World) (htab : Lib.TabIs Tryz.prog w "internal/strconv.uint64pow10" .u64 Lib.pow10Tab) :
    Calls Tryz.prog 226 #[.int .i64 n] w fun e w' => e = .returned (.string ⟨(Lib.itoa n).toArray⟩) ∧ ∃ k os, w' = grow (w.drewN k) os := Any.strconv_Itoa Tryz.laysM171 n h0 h1 w htab
def Tryz.laysPu14_ren : Go.Shelf.Ren := ⟨fun | 14 => 171 | 16 => 192 | 17 => 193 | 19 => 209 | 20 => 210 | 21 => 211 | 22 => 212 | 23 => 213 | 24 => 214 | 25 => 224 | 27 => 226 | 26 => 225 | 28 => 230 | 29 => 231 | 30 => 200 | 31 => 201 | 32 => 202 | 33 => 203 | 35 => 218 | 34 => 217 | 36 => 219 | 37 => 220 | 38 => 221 | 39 => 228 | 40 => 229 | n => n, fun | 9 => 9 | 3 => 3 | 22 => 169 | 24 => 177 | 25 => 178 | 4 => 4 | 34 => 215 | 5 => 5 | 36 => 154 | 37 => 181 | 0 => 0 | 39 => 218 | 21 => 21 | 44 => 231 | 47 => 206 | 50 => 237 | 48 => 235 | 2 => 2 | 52 => 209 | 55 => 212 | 59 => 224 | 60 => 188 | 20 => 20 | 61 => 225 | 65 => 238 | 66 => 239 | 67 => 150 | n => n, fun | 0 => 2 | 1 => 3 | 2 => 1 | 3 => 4 | 4 => 5 | n => n⟩
theorem Tryz.laysPu14 : Go.Proofs.LaysPu.n14 Tryz.prog Tryz.laysPu14_ren := {
  mixed := by kernel_rfl
  f14 := Tryz.func171.trans (congrArg some (by kernel_rfl))
  f16 := Tryz.func192.trans (congrArg some (by kernel_rfl))
  f17 := Tryz.func193.trans (congrArg some (by kernel_rfl))
  f19 := Tryz.func209.trans (congrArg some (by kernel_rfl))
  f20 := Tryz.func210.trans (congrArg some (by kernel_rfl))
  f21 := Tryz.func211.trans (congrArg some (by kernel_rfl))
  f22 := Tryz.func212.trans (congrArg some (by kernel_rfl))
  f23 := Tryz.func213.trans (congrArg some (by kernel_rfl))
  f24 := Tryz.func214.trans (congrArg some (by kernel_rfl))
  f25 := Tryz.func224.trans (congrArg some (by kernel_rfl))
  f26 := Tryz.func225.trans (congrArg some (by kernel_rfl))
  f27 := Tryz.func226.trans (congrArg some (by kernel_rfl))
  f28 := Tryz.func230.trans (congrArg some (by kernel_rfl))
  f29 := Tryz.func231.trans (congrArg some (by kernel_rfl))
  f30 := Tryz.func200.trans (congrArg some (by kernel_rfl))
  f31 := Tryz.func201.trans (congrArg some (by kernel_rfl))
  f32 := Tryz.func202.trans (congrArg some (by kernel_rfl))
  f33 := Tryz.func203.trans (congrArg some (by kernel_rfl))
  f34 := Tryz.func217.trans (congrArg some (by kernel_rfl))
  f35 := Tryz.func218.trans (congrArg some (by kernel_rfl))
  f36 := Tryz.func219.trans (congrArg some (by kernel_rfl))
  f37 := Tryz.func220.trans (congrArg some (by kernel_rfl))
  f38 := Tryz.func221.trans (congrArg some (by kernel_rfl))
  f39 := Tryz.func228.trans (congrArg some (by kernel_rfl))
  f40 := Tryz.func229.trans (congrArg some (by kernel_rfl))
  t0 := Tryz.underlying0
  a0 := Tryz.isAgg0
  z0 := Tryz.sizeOf0
  v0 := Tryz.zeroValue0
  i0 := by kernel_rfl
  t2 := Tryz.underlying2
  a2 := Tryz.isAgg2
  z2 := Tryz.sizeOf2
  v2 := Tryz.zeroValue2
  i2 := by kernel_rfl
  t3 := Tryz.underlying3
  a3 := Tryz.isAgg3
  z3 := Tryz.sizeOf3
  v3 := Tryz.zeroValue3
  i3 := by kernel_rfl
  t4 := Tryz.underlying4
  a4 := Tryz.isAgg4
  z4 := Tryz.sizeOf4
  v4 := Tryz.zeroValue4
  i4 := by kernel_rfl
  t5 := Tryz.underlying5
  a5 := Tryz.isAgg5
  z5 := Tryz.sizeOf5
  v5 := Tryz.zeroValue5
  i5 := by kernel_rfl
  t9 := Tryz.underlying9
  a9 := Tryz.isAgg9
  z9 := Tryz.sizeOf9
  v9 := Tryz.zeroValue9
  i9 := by kernel_rfl
  t20 := Tryz.underlying20
  a20 := Tryz.isAgg20
  z20 := Tryz.sizeOf20
  v20 := Tryz.zeroValue20
  i20 := by kernel_rfl
  t21 := Tryz.underlying21
  a21 := Tryz.isAgg21
  z21 := Tryz.sizeOf21
  v21 := Tryz.zeroValue21
  i21 := by kernel_rfl
  t22 := Tryz.underlying169
  a22 := Tryz.isAgg169
  z22 := Tryz.sizeOf169
  v22 := Tryz.zeroValue169
  i22 := by kernel_rfl
  t24 := Tryz.underlying177
  a24 := Tryz.isAgg177
  z24 := Tryz.sizeOf177
  v24 := Tryz.zeroValue177
  i24 := by kernel_rfl
  t25 := Tryz.underlying178
  a25 := Tryz.isAgg178
  z25 := Tryz.sizeOf178
  v25 := Tryz.zeroValue178
  i25 := by kernel_rfl
  t34 := Tryz.underlying215
  a34 := Tryz.isAgg215
  z34 := Tryz.sizeOf215
  v34 := Tryz.zeroValue215
  i34 := by kernel_rfl
  c34 := by kernel_rfl
  t36 := Tryz.underlying154
  a36 := Tryz.isAgg154
  z36 := Tryz.sizeOf154
  v36 := Tryz.zeroValue154
  i36 := by kernel_rfl
  t37 := Tryz.underlying181
  a37 := Tryz.isAgg181
  z37 := Tryz.sizeOf181
  v37 := Tryz.zeroValue181
  i37 := by kernel_rfl
  t39 := Tryz.underlying218
  a39 := Tryz.isAgg218
  z39 := Tryz.sizeOf218
  v39 := Tryz.zeroValue218
  i39 := by kernel_rfl
  t44 := Tryz.underlying231
  a44 := Tryz.isAgg231
  z44 := Tryz.sizeOf231
  v44 := Tryz.zeroValue231
  i44 := by kernel_rfl
  t47 := Tryz.underlying206
  a47 := Tryz.isAgg206
  z47 := Tryz.sizeOf206
  v47 := Tryz.zeroValue206
  i47 := by kernel_rfl
  t48 := Tryz.underlying235
  a48 := Tryz.isAgg235
  z48 := Tryz.sizeOf235
  v48 := Tryz.zeroValue235
  i48 := by kernel_rfl
  t50 := Tryz.underlying237
  a50 := Tryz.isAgg237
  z50 := Tryz.sizeOf237
  v50 := Tryz.zeroValue237
  i50 := by kernel_rfl
  t52 := Tryz.underlying209
  a52 := Tryz.isAgg209
  z52 := Tryz.sizeOf209
  v52 := Tryz.zeroValue209
  i52 := by kernel_rfl
  t55 := Tryz.underlying212
  a55 := Tryz.isAgg212
  z55 := Tryz.sizeOf212
  v55 := Tryz.zeroValue212
  i55 := by kernel_rfl
  t59 := Tryz.underlying224
  a59 := Tryz.isAgg224
  z59 := Tryz.sizeOf224
  v59 := Tryz.zeroValue224
  i59 := by kernel_rfl
  t60 := Tryz.underlying188
  a60 := Tryz.isAgg188
  z60 := Tryz.sizeOf188
  v60 := Tryz.zeroValue188
  i60 := by kernel_rfl
  t61 := Tryz.underlying225
  a61 := Tryz.isAgg225
  z61 := Tryz.sizeOf225
  t65 := Tryz.underlying238
  a65 := Tryz.isAgg238
  z65 := Tryz.sizeOf238
  v65 := Tryz.zeroValue238
  i65 := by kernel_rfl
  t66 := Tryz.underlying239
  a66 := Tryz.isAgg239
  z66 := Tryz.sizeOf239
  v66 := Tryz.zeroValue239
  i66 := by kernel_rfl
  t67 := Tryz.underlying150
  a67 := Tryz.isAgg150
  z67 := Tryz.sizeOf150
  v67 := Tryz.zeroValue150
  i67 := by kernel_rfl
  g0 := by kernel_rfl
  m0 := by kernel_rfl
  g1 := by kernel_rfl
  m1 := by kernel_rfl
  g2 := by kernel_rfl
  m2 := by kernel_rfl
  g3 := by kernel_rfl
  m3 := by kernel_rfl
  g4 := by kernel_rfl
  m4 := by kernel_rfl }
open Go.RowKit in
/-- strconv.ParseUint(s, 10, 64), AT EVERY STRING THAT SPELLS A uint64 ('Lib.parseUintB 64 s.data.toList = .ok u'): u, AND NO ERROR. (LAID: no walk: one application.) -/
theorem Tryz.strconv_ParseUint_10_at64_ok (s : ByteArray) (hmax : s.size ≤ 9223372036854775806) (u : Nat) (h : Lib.parseUintB 64 s.data.toList = .ok u) (w : World) :
    Calls Tryz.prog 171 #[.string s, .int .i64 10, .int .i64 64] w fun e w' => e = .returned (.tuple #[.int .u64 u, .nilIface]) ∧ (w' = w ∨ w' = Lib.bytesWorld w 5 s) := Any.strconv_ParseUint_10_at64_ok Tryz.laysPu14 s hmax u h w
def Tryz.lays145_ren : Go.Shelf.Ren := ⟨fun | 145 => 129 | 220 => 169 | 219 => 190 | 217 => 204 | 225 => 205 | 224 => 206 | 267 => 207 | 266 => 222 | 314 => 223 | n => n, fun | 9 => 9 | 4 => 4 | 59 => 147 | 3 => 3 | 5 => 5 | 46 => 154 | 146 => 189 | 51 => 188 | n => n, fun | 1 => 0 | n => n⟩
theorem Tryz.lays145 : Go.Proofs.Lays.n145 Tryz.prog Tryz.lays145_ren := {
  mixed := by kernel_rfl
  f145 := Tryz.func129.trans (congrArg some (by kernel_rfl))
  f217 := Tryz.func204.trans (congrArg some (by kernel_rfl))
  f219 := Tryz.func190.trans (congrArg some (by kernel_rfl))
  f220 := Tryz.func169.trans (congrArg some (by kernel_rfl))
  f224 := Tryz.func206.trans (congrArg some (by kernel_rfl))
  f225 := Tryz.func205.trans (congrArg some (by kernel_rfl))
  f266 := Tryz.func222.trans (congrArg some (by kernel_rfl))
  f267 := Tryz.func207.trans (congrArg some (by kernel_rfl))
  f314 := Tryz.func223.trans (congrArg some (by kernel_rfl))
  t3 := Tryz.underlying3
  a3 := Tryz.isAgg3
  z3 := Tryz.sizeOf3
  v3 := Tryz.zeroValue3
  t4 := Tryz.underlying4
  a4 := Tryz.isAgg4
  z4 := Tryz.sizeOf4
  v4 := Tryz.zeroValue4
  t5 := Tryz.underlying5
  a5 := Tryz.isAgg5
  z5 := Tryz.sizeOf5
  v5 := Tryz.zeroValue5
  t9 := Tryz.underlying9
  a9 := Tryz.isAgg9
  z9 := Tryz.sizeOf9
  v9 := Tryz.zeroValue9
  t46 := Tryz.underlying154
  a46 := Tryz.isAgg154
  z46 := Tryz.sizeOf154
  v46 := Tryz.zeroValue154
  t51 := Tryz.underlying188
  a51 := Tryz.isAgg188
  z51 := Tryz.sizeOf188
  v51 := Tryz.zeroValue188
  t59 := Tryz.underlying147
  a59 := Tryz.isAgg147
  z59 := Tryz.sizeOf147
  v59 := Tryz.zeroValue147
  t146 := Tryz.underlying189
  a146 := Tryz.isAgg189
  z146 := Tryz.sizeOf189
  v146 := Tryz.zeroValue189
  g1 := by kernel_rfl }
open Go.RowKit Go.Lib in
/-- strings.Cut: "Cut slices s around the first instance of sep, returning the text before and after sep. The found result reports whether sep appears in s. If sep does not appear in s, cut returns s, "", false.": IT RETURNS 'Lib.cut s sep'; the world is as it was but for the count of draws. (LAID: no walk: one application.) -/
theorem Tryz.strings_Cut (s sep : ByteArray) (m : Int) (w : World) (hs : s.size < 4294967281) (hm : w.cell? ⟨0, 0, none⟩ = some (.int .i64 m)) :
    Calls Tryz.prog 129 #[.string s, .string sep] w fun e w' => e = .returned (.tuple #[.string ⟨(Lib.cut s.data.toList sep.data.toList).1.toArray⟩, .string ⟨(Lib.cut s.data.toList sep.data.toList).2.1.toArray⟩, .bool (Lib.cut s.data.toList sep.data.toList).2.2]) ∧ ∃ n, w' = w.drewN n := Any.strings_Cut Tryz.lays145 s sep m w hs hm
def Tryz.lays101_ren : Go.Shelf.Ren := ⟨fun | 101 => 181 | 208 => 199 | 206 => 208 | n => n, fun | 9 => 9 | 4 => 4 | 3 => 3 | n => n, fun | n => n⟩
theorem Tryz.lays101 : Go.Proofs.Lays.n101 Tryz.prog Tryz.lays101_ren := {
  mixed := by kernel_rfl
  f101 := Tryz.func181.trans (congrArg some (by kernel_rfl))
  f206 := Tryz.func208.trans (congrArg some (by kernel_rfl))
  f208 := Tryz.func199.trans (congrArg some (by kernel_rfl))
  t3 := Tryz.underlying3
  a3 := Tryz.isAgg3
  z3 := Tryz.sizeOf3
  v3 := Tryz.zeroValue3
  t4 := Tryz.underlying4
  a4 := Tryz.isAgg4
  z4 := Tryz.sizeOf4
  v4 := Tryz.zeroValue4
  t9 := Tryz.underlying9
  a9 := Tryz.isAgg9
  z9 := Tryz.sizeOf9
  v9 := Tryz.zeroValue9 }
open Go.RowKit Go.Lib in
/-- strings.TrimPrefix: "TrimPrefix returns s without the provided leading prefix string. If s doesn't start with prefix, s is returned unchanged.": IT RETURNS 'Lib.trimPrefix s prefix'; the world is as it was. (LAID: no walk: one application.) -/
theorem Tryz.strings_TrimPrefix (s p : ByteArray) (w : World) :
    Calls Tryz.prog 181 #[.string s, .string p] w fun e w' => e = .returned (.string ⟨(Lib.trimPrefix s.data.toList p.data.toList).toArray⟩) ∧ w' = w := Any.strings_TrimPrefix Tryz.lays101 s p w
def Tryz.lays105_ren : Go.Shelf.Ren := ⟨fun | 105 => 173 | 212 => 136 | 99 => 195 | 165 => 196 | 166 => 172 | 170 => 197 | 169 => 174 | 263 => 177 | 264 => 178 | 206 => 208 | 240 => 194 | 241 => 216 | 276 => 215 | 277 => 227 | n => n, fun | 9 => 9 | 3 => 3 | 4 => 4 | 20 => 20 | 0 => 0 | 46 => 154 | 109 => 155 | 5 => 5 | 72 => 183 | 76 => 184 | 51 => 188 | 146 => 189 | 53 => 169 | 148 => 191 | 70 => 180 | 37 => 181 | 75 => 177 | 127 => 206 | 164 => 221 | 80 => 150 | n => n, fun | n => n⟩
theorem Tryz.lays105 : Go.Proofs.Lays.n105 Tryz.prog Tryz.lays105_ren := {
  mixed := by kernel_rfl
  f99 := Tryz.func195.trans (congrArg some (by kernel_rfl))
  f105 := Tryz.func173.trans (congrArg some (by kernel_rfl))
  f165 := Tryz.func196.trans (congrArg some (by kernel_rfl))
  f166 := Tryz.func172.trans (congrArg some (by kernel_rfl))
  f169 := Tryz.func174.trans (congrArg some (by kernel_rfl))
  f170 := Tryz.func197.trans (congrArg some (by kernel_rfl))
  f206 := Tryz.func208.trans (congrArg some (by kernel_rfl))
  f212 := Tryz.func136.trans (congrArg some (by kernel_rfl))
  f240 := Tryz.func194.trans (congrArg some (by kernel_rfl))
  f241 := Tryz.func216.trans (congrArg some (by kernel_rfl))
  f263 := Tryz.func177.trans (congrArg some (by kernel_rfl))
  f264 := Tryz.func178.trans (congrArg some (by kernel_rfl))
  f276 := Tryz.func215.trans (congrArg some (by kernel_rfl))
  f277 := Tryz.func227.trans (congrArg some (by kernel_rfl))
  t0 := Tryz.underlying0
  a0 := Tryz.isAgg0
  z0 := Tryz.sizeOf0
  v0 := Tryz.zeroValue0
  t3 := Tryz.underlying3
  a3 := Tryz.isAgg3
  z3 := Tryz.sizeOf3
  v3 := Tryz.zeroValue3
  t4 := Tryz.underlying4
  a4 := Tryz.isAgg4
  z4 := Tryz.sizeOf4
  v4 := Tryz.zeroValue4
  t5 := Tryz.underlying5
  a5 := Tryz.isAgg5
  z5 := Tryz.sizeOf5
  v5 := Tryz.zeroValue5
  t9 := Tryz.underlying9
  a9 := Tryz.isAgg9
  z9 := Tryz.sizeOf9
  v9 := Tryz.zeroValue9
  t20 := Tryz.underlying20
  a20 := Tryz.isAgg20
  z20 := Tryz.sizeOf20
  v20 := Tryz.zeroValue20
  t37 := Tryz.underlying181
  a37 := Tryz.isAgg181
  z37 := Tryz.sizeOf181
  v37 := Tryz.zeroValue181
  t46 := Tryz.underlying154
  a46 := Tryz.isAgg154
  z46 := Tryz.sizeOf154
  v46 := Tryz.zeroValue154
  t51 := Tryz.underlying188
  a51 := Tryz.isAgg188
  z51 := Tryz.sizeOf188
  v51 := Tryz.zeroValue188
  t53 := Tryz.underlying169
  a53 := Tryz.isAgg169
  z53 := Tryz.sizeOf169
  v53 := Tryz.zeroValue169
  t70 := Tryz.underlying180
  a70 := Tryz.isAgg180
  z70 := Tryz.sizeOf180
  v70 := Tryz.zeroValue180
  t72 := Tryz.underlying183
  a72 := Tryz.isAgg183
  z72 := Tryz.sizeOf183
  v72 := Tryz.zeroValue183
  t75 := Tryz.underlying177
  a75 := Tryz.isAgg177
  z75 := Tryz.sizeOf177
  v75 := Tryz.zeroValue177
  t76 := Tryz.underlying184
  a76 := Tryz.isAgg184
  z76 := Tryz.sizeOf184
  v76 := Tryz.zeroValue184
  t109 := Tryz.underlying155
  a109 := Tryz.isAgg155
  z109 := Tryz.sizeOf155
  v109 := Tryz.zeroValue155
  t127 := Tryz.underlying206
  a127 := Tryz.isAgg206
  z127 := Tryz.sizeOf206
  v127 := Tryz.zeroValue206
  t146 := Tryz.underlying189
  a146 := Tryz.isAgg189
  z146 := Tryz.sizeOf189
  v146 := Tryz.zeroValue189
  t148 := Tryz.underlying191
  a148 := Tryz.isAgg191
  z148 := Tryz.sizeOf191
  v148 := Tryz.zeroValue191
  t164 := Tryz.underlying221
  a164 := Tryz.isAgg221
  z164 := Tryz.sizeOf221
  v164 := Tryz.zeroValue221 }
theorem Tryz.Builder_Extra_105 : Builder.Extra Tryz.prog Tryz.lays105_ren := {
  sizeBuilder := by kernel_rfl
  liesBuilder := by kernel_rfl
  t5 := Tryz.underlying5
  a5 := Tryz.isAgg5
  z5 := Tryz.sizeOf5
  v5 := Tryz.zeroValue5
  infoByte := by kernel_rfl
  cellsByte := by kernel_rfl
  sizeByte := by kernel_rfl
  neB5 := by decide }
open Go.RowKit Go.Lib in
/-- **strings.Repeat: count ≥ 0, the result within one allocation: count copies of s.** (LAID: no walk: one application.) -/
theorem Tryz.strings_Repeat (s : ByteArray) (c : Nat) (w : World) (hc : c ≤ 9223372036854775807) (hlen : s.size * c ≤ 140737488355328) :
    Calls Tryz.prog 173 #[.string s, .int .i64 c] w fun e w' => e = .returned (.string ⟨(Lib.repeatL s.data.toList c).toArray⟩) ∧ Below w.heap.size w w' := Any.strings_Repeat Tryz.lays105 Tryz.Builder_Extra_105 s c w hc hlen

end Go.Proofs
