/- What is known of Go's library at this seat: the shelf's contracts, laid in plain words. -/
import Derived.Shelf.Strings.Search1
import Derived.Shelf.Strings.Search2
import Derived.Shelf.Strings.Search3
import Derived.Shelf.LaysM
import Derived.Shelf.Strings.Shaped
import Derived.Shelf.Strings.Fields
import Derived.Shelf.Strings.Builder1
import Derived.Shelf.Strings.Builder2
import Derived.Shelf.Strings.OnBuilder
import Derived.Shelf.Strconv.Itoa0
import Derived.Shelf.Strconv.Itoa1
import Derived.Shelf.Strconv.Itoa2
import Derived.Shelf.Strconv.Itoa3
import Derived.Shelf.Strings.Count
import Derived.Shelf.Bits.Mul64
import Derived.Test.YtdfkioaoijmhbaaGreatDoorProg
namespace Go.Proofs
open Go.Shelf Go.RowKit Go.Sort
def Tryz.lays157_ren : Go.Shelf.Ren := ⟨fun | 157 => 214 | 229 => 258 | 199 => 259 | 261 => 284 | 311 => 304 | 312 => 305 | n => n, fun | 9 => 9 | 31 => 22 | 3 => 3 | 5 => 5 | 4 => 4 | 119 => 264 | 0 => 0 | 40 => 266 | 152 => 285 | 21 => 21 | 154 => 287 | 51 => 250 | 141 => 289 | 196 => 309 | 193 => 306 | 198 => 312 | 49 => 310 | 194 => 307 | 201 => 315 | 226 => 331 | 46 => 218 | 227 => 332 | n => n, fun | 0 => 0 | 6 => 1 | n => n⟩
theorem Tryz.lays157 : Go.Proofs.Lays.n157 Tryz.prog Tryz.lays157_ren := {
  mixed := by kernel_rfl
  f157 := Tryz.func214.trans (congrArg some (by kernel_rfl))
  f199 := Tryz.func259.trans (congrArg some (by kernel_rfl))
  f229 := Tryz.func258.trans (congrArg some (by kernel_rfl))
  f261 := Tryz.func284.trans (congrArg some (by kernel_rfl))
  f311 := Tryz.func304.trans (congrArg some (by kernel_rfl))
  f312 := Tryz.func305.trans (congrArg some (by kernel_rfl))
  t0 := Tryz.underlying0
  a0 := Tryz.isAgg0
  z0 := Tryz.sizeOf0
  v0 := Tryz.zeroValue0
  t3 := Tryz.underlying3
  a3 := Tryz.isAgg3
  z3 := Tryz.sizeOf3
  v3 := Tryz.zeroValue3
  t4 := Tryz.underlying4
  a4 := Tryz.isAgg4
  z4 := Tryz.sizeOf4
  v4 := Tryz.zeroValue4
  t5 := Tryz.underlying5
  a5 := Tryz.isAgg5
  z5 := Tryz.sizeOf5
  v5 := Tryz.zeroValue5
  t9 := Tryz.underlying9
  a9 := Tryz.isAgg9
  z9 := Tryz.sizeOf9
  v9 := Tryz.zeroValue9
  t21 := Tryz.underlying21
  a21 := Tryz.isAgg21
  z21 := Tryz.sizeOf21
  v21 := Tryz.zeroValue21
  t31 := Tryz.underlying22
  a31 := Tryz.isAgg22
  z31 := Tryz.sizeOf22
  v31 := Tryz.zeroValue22
  t40 := Tryz.underlying266
  a40 := Tryz.isAgg266
  z40 := Tryz.sizeOf266
  v40 := Tryz.zeroValue266
  t46 := Tryz.underlying218
  a46 := Tryz.isAgg218
  z46 := Tryz.sizeOf218
  v46 := Tryz.zeroValue218
  t49 := Tryz.underlying310
  a49 := Tryz.isAgg310
  z49 := Tryz.sizeOf310
  v49 := Tryz.zeroValue310
  t51 := Tryz.underlying250
  a51 := Tryz.isAgg250
  z51 := Tryz.sizeOf250
  v51 := Tryz.zeroValue250
  t119 := Tryz.underlying264
  a119 := Tryz.isAgg264
  z119 := Tryz.sizeOf264
  t141 := Tryz.underlying289
  a141 := Tryz.isAgg289
  z141 := Tryz.sizeOf289
  v141 := Tryz.zeroValue289
  t152 := Tryz.underlying285
  a152 := Tryz.isAgg285
  z152 := Tryz.sizeOf285
  v152 := Tryz.zeroValue285
  t154 := Tryz.underlying287
  a154 := Tryz.isAgg287
  z154 := Tryz.sizeOf287
  v154 := Tryz.zeroValue287
  t193 := Tryz.underlying306
  a193 := Tryz.isAgg306
  z193 := Tryz.sizeOf306
  v193 := Tryz.zeroValue306
  t194 := Tryz.underlying307
  a194 := Tryz.isAgg307
  z194 := Tryz.sizeOf307
  v194 := Tryz.zeroValue307
  t196 := Tryz.underlying309
  a196 := Tryz.isAgg309
  z196 := Tryz.sizeOf309
  v196 := Tryz.zeroValue309
  t198 := Tryz.underlying312
  a198 := Tryz.isAgg312
  z198 := Tryz.sizeOf312
  v198 := Tryz.zeroValue312
  t201 := Tryz.underlying315
  a201 := Tryz.isAgg315
  z201 := Tryz.sizeOf315
  v201 := Tryz.zeroValue315
  t226 := Tryz.underlying331
  a226 := Tryz.isAgg331
  z226 := Tryz.sizeOf331
  v226 := Tryz.zeroValue331
  t227 := Tryz.underlying332
  a227 := Tryz.isAgg332
  z227 := Tryz.sizeOf332
  v227 := Tryz.zeroValue332
  g0 := by kernel_rfl
  g6 := by kernel_rfl }
open Go.RowKit Go.Lib in
/-- strings.Fields, the table by 'Lib.TabIs' (as strings.TrimSpace's contract). 'hg': the table's number, by its name: at a dump 'by kernel_rfl'. (LAID: no walk: one application.) -/
theorem Tryz.strings_Fields (s : ByteArray) (w : World) (hs : s.size < 4294967281) (hascii : ∀ (j : Nat) b, s.data.toList[j]? = some b → b.toNat < 128) (htab : Lib.TabIs Tryz.prog w "strings.asciiSpace" .u8 Lib.asciiSpaceTab) :
    Calls Tryz.prog 214 #[.string s] w fun e w' =>
      e = .returned (.slice (some ⟨w.heap.size, 0, none⟩) (Lib.fields s.data.toList).length (Lib.fields s.data.toList).length) ∧ w' = w.alloc (.cells ((Lib.fields s.data.toList).map fun l => Value.string ⟨l.toArray⟩).toArray 9) := Any.strings_Fields Tryz.lays157 (by kernel_rfl) (by kernel_rfl) s w hs hascii htab
def Tryz.lays156_ren : Go.Shelf.Ren := ⟨fun | 156 => 292 | 165 => 311 | 166 => 312 | 169 => 313 | 240 => 320 | 241 => 321 | 276 => 334 | 277 => 335 | n => n, fun | 31 => 22 | 9 => 9 | 3 => 3 | 4 => 4 | 0 => 0 | 20 => 20 | 72 => 322 | 76 => 325 | 70 => 320 | 37 => 106 | 75 => 324 | 127 => 334 | 164 => 341 | 5 => 5 | 80 => 260 | n => n, fun n => n⟩
theorem Tryz.lays156 : Go.Proofs.Lays.n156 Tryz.prog Tryz.lays156_ren := {
  mixed := by kernel_rfl
  f156 := Tryz.func292.trans (congrArg some (by kernel_rfl))
  f165 := Tryz.func311.trans (congrArg some (by kernel_rfl))
  f166 := Tryz.func312.trans (congrArg some (by kernel_rfl))
  f169 := Tryz.func313.trans (congrArg some (by kernel_rfl))
  f240 := Tryz.func320.trans (congrArg some (by kernel_rfl))
  f241 := Tryz.func321.trans (congrArg some (by kernel_rfl))
  f276 := Tryz.func334.trans (congrArg some (by kernel_rfl))
  f277 := Tryz.func335.trans (congrArg some (by kernel_rfl))
  t0 := Tryz.underlying0
  a0 := Tryz.isAgg0
  z0 := Tryz.sizeOf0
  v0 := Tryz.zeroValue0
  t3 := Tryz.underlying3
  a3 := Tryz.isAgg3
  z3 := Tryz.sizeOf3
  v3 := Tryz.zeroValue3
  t4 := Tryz.underlying4
  a4 := Tryz.isAgg4
  z4 := Tryz.sizeOf4
  v4 := Tryz.zeroValue4
  t9 := Tryz.underlying9
  a9 := Tryz.isAgg9
  z9 := Tryz.sizeOf9
  v9 := Tryz.zeroValue9
  t20 := Tryz.underlying20
  a20 := Tryz.isAgg20
  z20 := Tryz.sizeOf20
  v20 := Tryz.zeroValue20
  t31 := Tryz.underlying22
  a31 := Tryz.isAgg22
  z31 := Tryz.sizeOf22
  v31 := Tryz.zeroValue22
  t37 := Tryz.underlying106
  a37 := Tryz.isAgg106
  z37 := Tryz.sizeOf106
  v37 := Tryz.zeroValue106
  t70 := Tryz.underlying320
  a70 := Tryz.isAgg320
  z70 := Tryz.sizeOf320
  v70 := Tryz.zeroValue320
  t72 := Tryz.underlying322
  a72 := Tryz.isAgg322
  z72 := Tryz.sizeOf322
  v72 := Tryz.zeroValue322
  t75 := Tryz.underlying324
  a75 := Tryz.isAgg324
  z75 := Tryz.sizeOf324
  v75 := Tryz.zeroValue324
  t76 := Tryz.underlying325
  a76 := Tryz.isAgg325
  z76 := Tryz.sizeOf325
  v76 := Tryz.zeroValue325
  t127 := Tryz.underlying334
  a127 := Tryz.isAgg334
  z127 := Tryz.sizeOf334
  v127 := Tryz.zeroValue334
  t164 := Tryz.underlying341
  a164 := Tryz.isAgg341
  z164 := Tryz.sizeOf341
  v164 := Tryz.zeroValue341 }
theorem Tryz.Builder_Extra_156 : Builder.Extra Tryz.prog Tryz.lays156_ren := {
  sizeBuilder := by kernel_rfl
  liesBuilder := by kernel_rfl
  t5 := Tryz.underlying5
  a5 := Tryz.isAgg5
  z5 := Tryz.sizeOf5
  v5 := Tryz.zeroValue5
  infoByte := by kernel_rfl
  cellsByte := by kernel_rfl
  sizeByte := by kernel_rfl
  neB5 := by decide }
/-- strings.Join: "Join concatenates the elements of its first argument to create a single string. The separator string sep is placed between elements in the resulting string.": HOWEVER MANY ELEMENTS. Below the heap's end the world is as it was. (LAID: no walk: one application.) -/
theorem Tryz.strings_Join (bk o c : Nat) (xs : List ByteArray) (sep : ByteArray) (w : World) (hcells : ∀ (j : Nat) x, xs[j]? = some x → w.cell? ⟨bk, o + j, none⟩ = some (.string x)) (hbk : bk < w.heap.size) (hN : xs.length ≤ 140737488355328) (hcap : xs.length ≤ c) (hlen : (Lib.join (xs.map (·.data.toList)) sep.data.toList).length ≤ 140737488355328) :
    Calls Tryz.prog 292 #[.slice (some ⟨bk, o, none⟩) xs.length c, .string sep] w fun e w' => e = .returned (.string ⟨(Lib.join (xs.map (·.data.toList)) sep.data.toList).toArray⟩) ∧ Below w.heap.size w w' := Any.strings_Join Tryz.lays156 Tryz.Builder_Extra_156 bk o c xs sep w hcells hbk hN hcap hlen
def Tryz.laysM171_ren : Go.Shelf.Ren := ⟨fun | 171 => 172 | 243 => 217 | 246 => 260 | 283 => 285 | 284 => 286 | 285 => 287 | 286 => 288 | 129 => 307 | 317 => 306 | 318 => 308 | 319 => 309 | 320 => 310 | 337 => 318 | 338 => 319 | n => n, fun | 3 => 3 | 9 => 9 | 2 => 2 | 4 => 4 | 171 => 290 | 0 => 0 | 53 => 253 | 37 => 106 | 5 => 5 | 173 => 293 | 212 => 317 | 51 => 250 | 20 => 20 | 213 => 318 | 46 => 218 | 232 => 339 | 233 => 340 | n => n, fun | 17 => 2 | 18 => 4 | 19 => 5 | n => n⟩
theorem Tryz.laysM171 : Go.Proofs.LaysM.n171 Tryz.prog Tryz.laysM171_ren := {
  mixed := by kernel_rfl
  f129 := Tryz.func307.trans (congrArg some (by kernel_rfl))
  f171 := Tryz.func172.trans (congrArg some (by kernel_rfl))
  f243 := Tryz.func217.trans (congrArg some (by kernel_rfl))
  f246 := Tryz.func260.trans (congrArg some (by kernel_rfl))
  f283 := Tryz.func285.trans (congrArg some (by kernel_rfl))
  f284 := Tryz.func286.trans (congrArg some (by kernel_rfl))
  f285 := Tryz.func287.trans (congrArg some (by kernel_rfl))
  f286 := Tryz.func288.trans (congrArg some (by kernel_rfl))
  f317 := Tryz.func306.trans (congrArg some (by kernel_rfl))
  f318 := Tryz.func308.trans (congrArg some (by kernel_rfl))
  f319 := Tryz.func309.trans (congrArg some (by kernel_rfl))
  f320 := Tryz.func310.trans (congrArg some (by kernel_rfl))
  f337 := Tryz.func318.trans (congrArg some (by kernel_rfl))
  f338 := Tryz.func319.trans (congrArg some (by kernel_rfl))
  t0 := Tryz.underlying0
  a0 := Tryz.isAgg0
  z0 := Tryz.sizeOf0
  v0 := Tryz.zeroValue0
  t2 := Tryz.underlying2
  a2 := Tryz.isAgg2
  z2 := Tryz.sizeOf2
  v2 := Tryz.zeroValue2
  t3 := Tryz.underlying3
  a3 := Tryz.isAgg3
  z3 := Tryz.sizeOf3
  v3 := Tryz.zeroValue3
  t4 := Tryz.underlying4
  a4 := Tryz.isAgg4
  z4 := Tryz.sizeOf4
  v4 := Tryz.zeroValue4
  t5 := Tryz.underlying5
  a5 := Tryz.isAgg5
  z5 := Tryz.sizeOf5
  v5 := Tryz.zeroValue5
  t9 := Tryz.underlying9
  a9 := Tryz.isAgg9
  z9 := Tryz.sizeOf9
  v9 := Tryz.zeroValue9
  t20 := Tryz.underlying20
  a20 := Tryz.isAgg20
  z20 := Tryz.sizeOf20
  v20 := Tryz.zeroValue20
  t37 := Tryz.underlying106
  a37 := Tryz.isAgg106
  z37 := Tryz.sizeOf106
  v37 := Tryz.zeroValue106
  t46 := Tryz.underlying218
  a46 := Tryz.isAgg218
  z46 := Tryz.sizeOf218
  v46 := Tryz.zeroValue218
  t51 := Tryz.underlying250
  a51 := Tryz.isAgg250
  z51 := Tryz.sizeOf250
  v51 := Tryz.zeroValue250
  t53 := Tryz.underlying253
  a53 := Tryz.isAgg253
  z53 := Tryz.sizeOf253
  v53 := Tryz.zeroValue253
  t171 := Tryz.underlying290
  a171 := Tryz.isAgg290
  z171 := Tryz.sizeOf290
  v171 := Tryz.zeroValue290
  t173 := Tryz.underlying293
  a173 := Tryz.isAgg293
  z173 := Tryz.sizeOf293
  v173 := Tryz.zeroValue293
  t212 := Tryz.underlying317
  a212 := Tryz.isAgg317
  z212 := Tryz.sizeOf317
  v212 := Tryz.zeroValue317
  t213 := Tryz.underlying318
  a213 := Tryz.isAgg318
  z213 := Tryz.sizeOf318
  t232 := Tryz.underlying339
  a232 := Tryz.isAgg339
  z232 := Tryz.sizeOf339
  v232 := Tryz.zeroValue339
  t233 := Tryz.underlying340
  a233 := Tryz.isAgg340
  z233 := Tryz.sizeOf340
  v233 := Tryz.zeroValue340
  g17 := by kernel_rfl
  g18 := by kernel_rfl
  g19 := by kernel_rfl
  i0 := by kernel_rfl
  i2 := by kernel_rfl
  i3 := by kernel_rfl
  i4 := by kernel_rfl
  i5 := by kernel_rfl
  i9 := by kernel_rfl
  i20 := by kernel_rfl
  i37 := by kernel_rfl
  i46 := by kernel_rfl
  i51 := by kernel_rfl
  i53 := by kernel_rfl
  i171 := by kernel_rfl
  i173 := by kernel_rfl
  i212 := by kernel_rfl
  i232 := by kernel_rfl
  i233 := by kernel_rfl
  m17 := by kernel_rfl
  m18 := by kernel_rfl
  m19 := by kernel_rfl }
/-- strconv.Itoa: "Itoa is equivalent to FormatInt(int64(i), 10).": i's DECIMAL NUMERAL ('Lib.itoa': a '-' where i is negative, then the digits), FOR EVERY int. The world behind the call: the world before it, new blocks behind the heap (the library's 'var a [24]byte'), draws. (LAID: no walk: one application.) -/
theorem Tryz.strconv_Itoa (n : Int) (h0 : -9223372036854775808 ≤ n) (h1 : n ≤ 9223372036854775807) (w : World) (htab : Lib.TabIs Tryz.prog w "internal/strconv.uint64pow10" .u64 Lib.pow10Tab) :
    Calls Tryz.prog 172 #[.int .i64 n] w fun e w' => e = .returned (.string ⟨(Lib.itoa n).toArray⟩) ∧ ∃ k os, w' = grow (w.drewN k) os := Any.strconv_Itoa Tryz.laysM171 n h0 h1 w htab
def Tryz.lays264_ren : Go.Shelf.Ren := ⟨fun | 264 => 238 | n => n, fun | 53 => 253 | 46 => 218 | n => n, fun n => n⟩
theorem Tryz.lays264 : Go.Proofs.Lays.n264 Tryz.prog Tryz.lays264_ren := {
  mixed := by kernel_rfl
  f264 := Tryz.func238.trans (congrArg some (by kernel_rfl))
  t46 := Tryz.underlying218
  a46 := Tryz.isAgg218
  z46 := Tryz.sizeOf218
  v46 := Tryz.zeroValue218
  t53 := Tryz.underlying253
  a53 := Tryz.isAgg253
  z53 := Tryz.sizeOf253
  v53 := Tryz.zeroValue253 }
open Go.RowKit Go.Lib in
theorem Tryz.bits_Mul64 (x y : Nat) (hx : x < 18446744073709551616) (hy : y < 18446744073709551616) (w : World) :
    Calls Tryz.prog 238 #[.int .u64 x, .int .u64 y] w fun e w' => e = .returned (.tuple #[.int .u64 ((x * y / 18446744073709551616 : Nat) : Int), .int .u64 ((x * y % 18446744073709551616 : Nat) : Int)]) ∧ w' = w := Any.bits_Mul64 Tryz.lays264 x y hx hy w
end Go.Proofs
