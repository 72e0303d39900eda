/- What is known of Go's library at this seat: the shelf's contracts, laid in plain words. -/
import Derived.Shelf.Small.Strs
import Derived.Shelf.Strings.Search1
import Derived.Shelf.Strings.Search2
import Derived.Shelf.Strings.Search3
import Derived.Shelf.LaysM
import Derived.Shelf.Strings.Shaped
import Derived.Shelf.Strings.Fields
import Derived.Shelf.Strings.Builder1
import Derived.Shelf.Strings.Builder2
import Derived.Shelf.Strings.OnBuilder
import Derived.Shelf.Strconv.Itoa0
import Derived.Shelf.Strconv.Itoa1
import Derived.Shelf.Strconv.Itoa2
import Derived.Shelf.Strconv.Itoa3
import Derived.Shelf.Strings.Count
import Derived.Shelf.Unicode.Latin
import Derived.Shelf.Bits.Mul64
import Derived.Shelf.Unicode.Is16White
import Derived.Shelf.Unicode.IsSpaceAny
import Derived.Shelf.Unicode.Is16Any
import Derived.Shelf.Unicode.Is32Any
import Derived.Shelf.Unicode.ExclAny
import Derived.Test.YthkbcgbmeajfbaaGreatDoorProg
namespace Go.Proofs
open Go.Shelf Go.RowKit Go.Sort
def Tryz.lays137_ren : Go.Shelf.Ren := ⟨fun | 137 => 115 | 217 => 223 | 266 => 292 | n => n, fun | 9 => 9 | 5 => 5 | 3 => 3 | n => n, fun n => n⟩
theorem Tryz.lays137 : Go.Proofs.Lays.n137 Tryz.prog Tryz.lays137_ren := {
  mixed := by kernel_rfl
  f137 := Tryz.func115.trans (congrArg some (by kernel_rfl))
  f217 := Tryz.func223.trans (congrArg some (by kernel_rfl))
  f266 := Tryz.func292.trans (congrArg some (by kernel_rfl))
  t3 := Tryz.underlying3
  a3 := Tryz.isAgg3
  z3 := Tryz.sizeOf3
  v3 := Tryz.zeroValue3
  t5 := Tryz.underlying5
  a5 := Tryz.isAgg5
  z5 := Tryz.sizeOf5
  v5 := Tryz.zeroValue5
  t9 := Tryz.underlying9
  a9 := Tryz.isAgg9
  z9 := Tryz.sizeOf9
  v9 := Tryz.zeroValue9 }
open Go.RowKit in
/-- strings.IndexByte: "IndexByte returns the index of the first instance of c in s, or -1 if c is not present in s.": IT RETURNS 'Lib.indexByte s c'; the world is as it was. (LAID: no walk: one application.) -/
theorem Tryz.strings_IndexByte (s : ByteArray) (c : Int) (w : World) :
    Calls Tryz.prog 115 #[.string s, .int .u8 c] w fun e w' => e = .returned (.int .i64 (Lib.indexByte s.data.toList c.toNat.toUInt8)) ∧ w' = w := Any.strings_IndexByte Tryz.lays137 s c w
def Tryz.lays144_ren : Go.Shelf.Ren := ⟨fun | 144 => 129 | 143 => 233 | 219 => 295 | 217 => 223 | 225 => 327 | 224 => 328 | 267 => 329 | 266 => 292 | 314 => 350 | n => n, fun | 9 => 9 | 4 => 4 | 3 => 3 | 5 => 5 | 46 => 305 | 146 => 334 | 51 => 319 | n => n, fun | 1 => 2 | n => n⟩
theorem Tryz.lays144 : Go.Proofs.Lays.n144 Tryz.prog Tryz.lays144_ren := {
  mixed := by kernel_rfl
  f143 := Tryz.func233.trans (congrArg some (by kernel_rfl))
  f144 := Tryz.func129.trans (congrArg some (by kernel_rfl))
  f217 := Tryz.func223.trans (congrArg some (by kernel_rfl))
  f219 := Tryz.func295.trans (congrArg some (by kernel_rfl))
  f224 := Tryz.func328.trans (congrArg some (by kernel_rfl))
  f225 := Tryz.func327.trans (congrArg some (by kernel_rfl))
  f266 := Tryz.func292.trans (congrArg some (by kernel_rfl))
  f267 := Tryz.func329.trans (congrArg some (by kernel_rfl))
  f314 := Tryz.func350.trans (congrArg some (by kernel_rfl))
  t3 := Tryz.underlying3
  a3 := Tryz.isAgg3
  z3 := Tryz.sizeOf3
  v3 := Tryz.zeroValue3
  t4 := Tryz.underlying4
  a4 := Tryz.isAgg4
  z4 := Tryz.sizeOf4
  v4 := Tryz.zeroValue4
  t5 := Tryz.underlying5
  a5 := Tryz.isAgg5
  z5 := Tryz.sizeOf5
  v5 := Tryz.zeroValue5
  t9 := Tryz.underlying9
  a9 := Tryz.isAgg9
  z9 := Tryz.sizeOf9
  v9 := Tryz.zeroValue9
  t46 := Tryz.underlying305
  a46 := Tryz.isAgg305
  z46 := Tryz.sizeOf305
  v46 := Tryz.zeroValue305
  t51 := Tryz.underlying319
  a51 := Tryz.isAgg319
  z51 := Tryz.sizeOf319
  v51 := Tryz.zeroValue319
  t146 := Tryz.underlying334
  a146 := Tryz.isAgg334
  z146 := Tryz.sizeOf334
  v146 := Tryz.zeroValue334
  g1 := by kernel_rfl }
open Go.RowKit Go.Lib in
/-- strings.Contains: "Contains reports whether substr is within s.": IT RETURNS 'Lib.contains s substr'; the world is as it was. (LAID: no walk: one application.) -/
theorem Tryz.strings_Contains (s sub : ByteArray) (m : Int) (w : World) (hs : s.size < 4294967281) (hm : w.cell? ⟨2, 0, none⟩ = some (.int .i64 m)) :
    Calls Tryz.prog 129 #[.string s, .string sub] w fun e w' => e = .returned (.bool (Lib.contains s.data.toList sub.data.toList)) ∧ w' = w := Any.strings_Contains Tryz.lays144 s sub m w hs hm
def Tryz.laysM144_ren : Go.Shelf.Ren := ⟨fun | 144 => 129 | 143 => 233 | 219 => 295 | 217 => 223 | 225 => 327 | 224 => 328 | 267 => 329 | 266 => 292 | 314 => 350 | n => n, fun | 9 => 9 | 4 => 4 | 3 => 3 | 5 => 5 | 46 => 305 | 146 => 334 | 51 => 319 | n => n, fun | 1 => 2 | n => n⟩
theorem Tryz.laysM144 : Go.Proofs.LaysM.n144 Tryz.prog Tryz.laysM144_ren := {
  mixed := by kernel_rfl
  f143 := Tryz.func233.trans (congrArg some (by kernel_rfl))
  f144 := Tryz.func129.trans (congrArg some (by kernel_rfl))
  f217 := Tryz.func223.trans (congrArg some (by kernel_rfl))
  f219 := Tryz.func295.trans (congrArg some (by kernel_rfl))
  f224 := Tryz.func328.trans (congrArg some (by kernel_rfl))
  f225 := Tryz.func327.trans (congrArg some (by kernel_rfl))
  f266 := Tryz.func292.trans (congrArg some (by kernel_rfl))
  f267 := Tryz.func329.trans (congrArg some (by kernel_rfl))
  f314 := Tryz.func350.trans (congrArg some (by kernel_rfl))
  t3 := Tryz.underlying3
  a3 := Tryz.isAgg3
  z3 := Tryz.sizeOf3
  v3 := Tryz.zeroValue3
  t4 := Tryz.underlying4
  a4 := Tryz.isAgg4
  z4 := Tryz.sizeOf4
  v4 := Tryz.zeroValue4
  t5 := Tryz.underlying5
  a5 := Tryz.isAgg5
  z5 := Tryz.sizeOf5
  v5 := Tryz.zeroValue5
  t9 := Tryz.underlying9
  a9 := Tryz.isAgg9
  z9 := Tryz.sizeOf9
  v9 := Tryz.zeroValue9
  t46 := Tryz.underlying305
  a46 := Tryz.isAgg305
  z46 := Tryz.sizeOf305
  v46 := Tryz.zeroValue305
  t51 := Tryz.underlying319
  a51 := Tryz.isAgg319
  z51 := Tryz.sizeOf319
  v51 := Tryz.zeroValue319
  t146 := Tryz.underlying334
  a146 := Tryz.isAgg334
  z146 := Tryz.sizeOf334
  v146 := Tryz.zeroValue334
  g1 := by kernel_rfl
  i3 := by kernel_rfl
  i4 := by kernel_rfl
  i5 := by kernel_rfl
  i9 := by kernel_rfl
  i46 := by kernel_rfl
  i51 := by kernel_rfl
  i146 := by kernel_rfl
  m1 := by kernel_rfl
  s1_3 := fun w h => Go.Proofs.cell_of_shapedOpen_int (zero := #[.int .i64 0]) (t := 3) h (of_decide_eq_true (by kernel_rfl)) (by kernel_rfl) rfl (by kernel_rfl) (by kernel_rfl) Tryz.underlying3 }
def Tryz.lays157_ren : Go.Shelf.Ren := ⟨fun | 157 => 124 | 229 => 225 | 199 => 226 | 261 => 293 | 311 => 324 | 312 => 325 | n => n, fun | 9 => 9 | 31 => 22 | 3 => 3 | 5 => 5 | 4 => 4 | 119 => 269 | 0 => 0 | 40 => 271 | 152 => 316 | 21 => 21 | 154 => 318 | 51 => 319 | 141 => 321 | 196 => 348 | 193 => 345 | 198 => 351 | 49 => 349 | 194 => 346 | 201 => 354 | 226 => 368 | 46 => 305 | 227 => 369 | n => n, fun | 0 => 0 | 6 => 1 | n => n⟩
theorem Tryz.lays157 : Go.Proofs.Lays.n157 Tryz.prog Tryz.lays157_ren := {
  mixed := by kernel_rfl
  f157 := Tryz.func124.trans (congrArg some (by kernel_rfl))
  f199 := Tryz.func226.trans (congrArg some (by kernel_rfl))
  f229 := Tryz.func225.trans (congrArg some (by kernel_rfl))
  f261 := Tryz.func293.trans (congrArg some (by kernel_rfl))
  f311 := Tryz.func324.trans (congrArg some (by kernel_rfl))
  f312 := Tryz.func325.trans (congrArg some (by kernel_rfl))
  t0 := Tryz.underlying0
  a0 := Tryz.isAgg0
  z0 := Tryz.sizeOf0
  v0 := Tryz.zeroValue0
  t3 := Tryz.underlying3
  a3 := Tryz.isAgg3
  z3 := Tryz.sizeOf3
  v3 := Tryz.zeroValue3
  t4 := Tryz.underlying4
  a4 := Tryz.isAgg4
  z4 := Tryz.sizeOf4
  v4 := Tryz.zeroValue4
  t5 := Tryz.underlying5
  a5 := Tryz.isAgg5
  z5 := Tryz.sizeOf5
  v5 := Tryz.zeroValue5
  t9 := Tryz.underlying9
  a9 := Tryz.isAgg9
  z9 := Tryz.sizeOf9
  v9 := Tryz.zeroValue9
  t21 := Tryz.underlying21
  a21 := Tryz.isAgg21
  z21 := Tryz.sizeOf21
  v21 := Tryz.zeroValue21
  t31 := Tryz.underlying22
  a31 := Tryz.isAgg22
  z31 := Tryz.sizeOf22
  v31 := Tryz.zeroValue22
  t40 := Tryz.underlying271
  a40 := Tryz.isAgg271
  z40 := Tryz.sizeOf271
  v40 := Tryz.zeroValue271
  t46 := Tryz.underlying305
  a46 := Tryz.isAgg305
  z46 := Tryz.sizeOf305
  v46 := Tryz.zeroValue305
  t49 := Tryz.underlying349
  a49 := Tryz.isAgg349
  z49 := Tryz.sizeOf349
  v49 := Tryz.zeroValue349
  t51 := Tryz.underlying319
  a51 := Tryz.isAgg319
  z51 := Tryz.sizeOf319
  v51 := Tryz.zeroValue319
  t119 := Tryz.underlying269
  a119 := Tryz.isAgg269
  z119 := Tryz.sizeOf269
  t141 := Tryz.underlying321
  a141 := Tryz.isAgg321
  z141 := Tryz.sizeOf321
  v141 := Tryz.zeroValue321
  t152 := Tryz.underlying316
  a152 := Tryz.isAgg316
  z152 := Tryz.sizeOf316
  v152 := Tryz.zeroValue316
  t154 := Tryz.underlying318
  a154 := Tryz.isAgg318
  z154 := Tryz.sizeOf318
  v154 := Tryz.zeroValue318
  t193 := Tryz.underlying345
  a193 := Tryz.isAgg345
  z193 := Tryz.sizeOf345
  v193 := Tryz.zeroValue345
  t194 := Tryz.underlying346
  a194 := Tryz.isAgg346
  z194 := Tryz.sizeOf346
  v194 := Tryz.zeroValue346
  t196 := Tryz.underlying348
  a196 := Tryz.isAgg348
  z196 := Tryz.sizeOf348
  v196 := Tryz.zeroValue348
  t198 := Tryz.underlying351
  a198 := Tryz.isAgg351
  z198 := Tryz.sizeOf351
  v198 := Tryz.zeroValue351
  t201 := Tryz.underlying354
  a201 := Tryz.isAgg354
  z201 := Tryz.sizeOf354
  v201 := Tryz.zeroValue354
  t226 := Tryz.underlying368
  a226 := Tryz.isAgg368
  z226 := Tryz.sizeOf368
  v226 := Tryz.zeroValue368
  t227 := Tryz.underlying369
  a227 := Tryz.isAgg369
  z227 := Tryz.sizeOf369
  v227 := Tryz.zeroValue369
  g0 := by kernel_rfl
  g6 := by kernel_rfl }
open Go.RowKit Go.Lib in
/-- strings.Fields, the table by 'Lib.TabIs' (as strings.TrimSpace's contract). 'hg': the table's number, by its name: at a dump 'by kernel_rfl'. (LAID: no walk: one application.) -/
theorem Tryz.strings_Fields (s : ByteArray) (w : World) (hs : s.size < 4294967281) (hascii : ∀ (j : Nat) b, s.data.toList[j]? = some b → b.toNat < 128) (htab : Lib.TabIs Tryz.prog w "strings.asciiSpace" .u8 Lib.asciiSpaceTab) :
    Calls Tryz.prog 124 #[.string s] w fun e w' =>
      e = .returned (.slice (some ⟨w.heap.size, 0, none⟩) (Lib.fields s.data.toList).length (Lib.fields s.data.toList).length) ∧ w' = w.alloc (.cells ((Lib.fields s.data.toList).map fun l => Value.string ⟨l.toArray⟩).toArray 9) := Any.strings_Fields Tryz.lays157 (by kernel_rfl) (by kernel_rfl) s w hs hascii htab
def Tryz.lays156_ren : Go.Shelf.Ren := ⟨fun | 156 => 358 | 165 => 376 | 166 => 377 | 169 => 378 | 240 => 384 | 241 => 385 | 276 => 394 | 277 => 395 | n => n, fun | 31 => 22 | 9 => 9 | 3 => 3 | 4 => 4 | 0 => 0 | 20 => 20 | 72 => 393 | 76 => 396 | 70 => 391 | 37 => 212 | 75 => 395 | 127 => 403 | 164 => 410 | 5 => 5 | 80 => 276 | n => n, fun n => n⟩
theorem Tryz.lays156 : Go.Proofs.Lays.n156 Tryz.prog Tryz.lays156_ren := {
  mixed := by kernel_rfl
  f156 := Tryz.func358.trans (congrArg some (by kernel_rfl))
  f165 := Tryz.func376.trans (congrArg some (by kernel_rfl))
  f166 := Tryz.func377.trans (congrArg some (by kernel_rfl))
  f169 := Tryz.func378.trans (congrArg some (by kernel_rfl))
  f240 := Tryz.func384.trans (congrArg some (by kernel_rfl))
  f241 := Tryz.func385.trans (congrArg some (by kernel_rfl))
  f276 := Tryz.func394.trans (congrArg some (by kernel_rfl))
  f277 := Tryz.func395.trans (congrArg some (by kernel_rfl))
  t0 := Tryz.underlying0
  a0 := Tryz.isAgg0
  z0 := Tryz.sizeOf0
  v0 := Tryz.zeroValue0
  t3 := Tryz.underlying3
  a3 := Tryz.isAgg3
  z3 := Tryz.sizeOf3
  v3 := Tryz.zeroValue3
  t4 := Tryz.underlying4
  a4 := Tryz.isAgg4
  z4 := Tryz.sizeOf4
  v4 := Tryz.zeroValue4
  t9 := Tryz.underlying9
  a9 := Tryz.isAgg9
  z9 := Tryz.sizeOf9
  v9 := Tryz.zeroValue9
  t20 := Tryz.underlying20
  a20 := Tryz.isAgg20
  z20 := Tryz.sizeOf20
  v20 := Tryz.zeroValue20
  t31 := Tryz.underlying22
  a31 := Tryz.isAgg22
  z31 := Tryz.sizeOf22
  v31 := Tryz.zeroValue22
  t37 := Tryz.underlying212
  a37 := Tryz.isAgg212
  z37 := Tryz.sizeOf212
  v37 := Tryz.zeroValue212
  t70 := Tryz.underlying391
  a70 := Tryz.isAgg391
  z70 := Tryz.sizeOf391
  v70 := Tryz.zeroValue391
  t72 := Tryz.underlying393
  a72 := Tryz.isAgg393
  z72 := Tryz.sizeOf393
  v72 := Tryz.zeroValue393
  t75 := Tryz.underlying395
  a75 := Tryz.isAgg395
  z75 := Tryz.sizeOf395
  v75 := Tryz.zeroValue395
  t76 := Tryz.underlying396
  a76 := Tryz.isAgg396
  z76 := Tryz.sizeOf396
  v76 := Tryz.zeroValue396
  t127 := Tryz.underlying403
  a127 := Tryz.isAgg403
  z127 := Tryz.sizeOf403
  v127 := Tryz.zeroValue403
  t164 := Tryz.underlying410
  a164 := Tryz.isAgg410
  z164 := Tryz.sizeOf410
  v164 := Tryz.zeroValue410 }
theorem Tryz.Builder_Extra_156 : Builder.Extra Tryz.prog Tryz.lays156_ren := {
  sizeBuilder := by kernel_rfl
  liesBuilder := by kernel_rfl
  t5 := Tryz.underlying5
  a5 := Tryz.isAgg5
  z5 := Tryz.sizeOf5
  v5 := Tryz.zeroValue5
  infoByte := by kernel_rfl
  cellsByte := by kernel_rfl
  sizeByte := by kernel_rfl
  neB5 := by decide }
/-- strings.Join: "Join concatenates the elements of its first argument to create a single string. The separator string sep is placed between elements in the resulting string.": HOWEVER MANY ELEMENTS. Below the heap's end the world is as it was. (LAID: no walk: one application.) -/
theorem Tryz.strings_Join (bk o c : Nat) (xs : List ByteArray) (sep : ByteArray) (w : World) (hcells : ∀ (j : Nat) x, xs[j]? = some x → w.cell? ⟨bk, o + j, none⟩ = some (.string x)) (hbk : bk < w.heap.size) (hN : xs.length ≤ 140737488355328) (hcap : xs.length ≤ c) (hlen : (Lib.join (xs.map (·.data.toList)) sep.data.toList).length ≤ 140737488355328) :
    Calls Tryz.prog 358 #[.slice (some ⟨bk, o, none⟩) xs.length c, .string sep] w fun e w' => e = .returned (.string ⟨(Lib.join (xs.map (·.data.toList)) sep.data.toList).toArray⟩) ∧ Below w.heap.size w w' := Any.strings_Join Tryz.lays156 Tryz.Builder_Extra_156 bk o c xs sep w hcells hbk hN hcap hlen
def Tryz.laysM171_ren : Go.Shelf.Ren := ⟨fun | 171 => 266 | 243 => 300 | 246 => 331 | 283 => 352 | 284 => 353 | 285 => 354 | 286 => 355 | 129 => 372 | 317 => 371 | 318 => 373 | 319 => 374 | 320 => 375 | 337 => 382 | 338 => 383 | n => n, fun | 3 => 3 | 9 => 9 | 2 => 2 | 4 => 4 | 171 => 371 | 0 => 0 | 53 => 336 | 37 => 212 | 5 => 5 | 173 => 374 | 212 => 388 | 51 => 319 | 20 => 20 | 213 => 389 | 46 => 305 | 232 => 408 | 233 => 409 | n => n, fun | 17 => 3 | 18 => 4 | 19 => 5 | n => n⟩
theorem Tryz.laysM171 : Go.Proofs.LaysM.n171 Tryz.prog Tryz.laysM171_ren := {
  mixed := by kernel_rfl
  f129 := Tryz.func372.trans (congrArg some (by kernel_rfl))
  f171 := Tryz.func266.trans (congrArg some (by kernel_rfl))
  f243 := Tryz.func300.trans (congrArg some (by kernel_rfl))
  f246 := Tryz.func331.trans (congrArg some (by kernel_rfl))
  f283 := Tryz.func352.trans (congrArg some (by kernel_rfl))
  f284 := Tryz.func353.trans (congrArg some (by kernel_rfl))
  f285 := Tryz.func354.trans (congrArg some (by kernel_rfl))
  f286 := Tryz.func355.trans (congrArg some (by kernel_rfl))
  f317 := Tryz.func371.trans (congrArg some (by kernel_rfl))
  f318 := Tryz.func373.trans (congrArg some (by kernel_rfl))
  f319 := Tryz.func374.trans (congrArg some (by kernel_rfl))
  f320 := Tryz.func375.trans (congrArg some (by kernel_rfl))
  f337 := Tryz.func382.trans (congrArg some (by kernel_rfl))
  f338 := Tryz.func383.trans (congrArg some (by kernel_rfl))
  t0 := Tryz.underlying0
  a0 := Tryz.isAgg0
  z0 := Tryz.sizeOf0
  v0 := Tryz.zeroValue0
  t2 := Tryz.underlying2
  a2 := Tryz.isAgg2
  z2 := Tryz.sizeOf2
  v2 := Tryz.zeroValue2
  t3 := Tryz.underlying3
  a3 := Tryz.isAgg3
  z3 := Tryz.sizeOf3
  v3 := Tryz.zeroValue3
  t4 := Tryz.underlying4
  a4 := Tryz.isAgg4
  z4 := Tryz.sizeOf4
  v4 := Tryz.zeroValue4
  t5 := Tryz.underlying5
  a5 := Tryz.isAgg5
  z5 := Tryz.sizeOf5
  v5 := Tryz.zeroValue5
  t9 := Tryz.underlying9
  a9 := Tryz.isAgg9
  z9 := Tryz.sizeOf9
  v9 := Tryz.zeroValue9
  t20 := Tryz.underlying20
  a20 := Tryz.isAgg20
  z20 := Tryz.sizeOf20
  v20 := Tryz.zeroValue20
  t37 := Tryz.underlying212
  a37 := Tryz.isAgg212
  z37 := Tryz.sizeOf212
  v37 := Tryz.zeroValue212
  t46 := Tryz.underlying305
  a46 := Tryz.isAgg305
  z46 := Tryz.sizeOf305
  v46 := Tryz.zeroValue305
  t51 := Tryz.underlying319
  a51 := Tryz.isAgg319
  z51 := Tryz.sizeOf319
  v51 := Tryz.zeroValue319
  t53 := Tryz.underlying336
  a53 := Tryz.isAgg336
  z53 := Tryz.sizeOf336
  v53 := Tryz.zeroValue336
  t171 := Tryz.underlying371
  a171 := Tryz.isAgg371
  z171 := Tryz.sizeOf371
  v171 := Tryz.zeroValue371
  t173 := Tryz.underlying374
  a173 := Tryz.isAgg374
  z173 := Tryz.sizeOf374
  v173 := Tryz.zeroValue374
  t212 := Tryz.underlying388
  a212 := Tryz.isAgg388
  z212 := Tryz.sizeOf388
  v212 := Tryz.zeroValue388
  t213 := Tryz.underlying389
  a213 := Tryz.isAgg389
  z213 := Tryz.sizeOf389
  t232 := Tryz.underlying408
  a232 := Tryz.isAgg408
  z232 := Tryz.sizeOf408
  v232 := Tryz.zeroValue408
  t233 := Tryz.underlying409
  a233 := Tryz.isAgg409
  z233 := Tryz.sizeOf409
  v233 := Tryz.zeroValue409
  g17 := by kernel_rfl
  g18 := by kernel_rfl
  g19 := by kernel_rfl
  i0 := by kernel_rfl
  i2 := by kernel_rfl
  i3 := by kernel_rfl
  i4 := by kernel_rfl
  i5 := by kernel_rfl
  i9 := by kernel_rfl
  i20 := by kernel_rfl
  i37 := by kernel_rfl
  i46 := by kernel_rfl
  i51 := by kernel_rfl
  i53 := by kernel_rfl
  i171 := by kernel_rfl
  i173 := by kernel_rfl
  i212 := by kernel_rfl
  i232 := by kernel_rfl
  i233 := by kernel_rfl
  m17 := by kernel_rfl
  m18 := by kernel_rfl
  m19 := by kernel_rfl }
/-- strconv.Itoa: "Itoa is equivalent to FormatInt(int64(i), 10).": i's DECIMAL NUMERAL ('Lib.itoa': a '-' where i is negative, then the digits), FOR EVERY int. The world behind the call: the world before it, new blocks behind the heap (the library's 'var a [24]byte'), draws. (LAID: no walk: one application.) -/
theorem Tryz.strconv_Itoa (n : Int) (h0 : -9223372036854775808 ≤ n) (h1 : n ≤ 9223372036854775807) (w : World) (htab : Lib.TabIs Tryz.prog w "internal/strconv.uint64pow10" .u64 Lib.pow10Tab) :
    Calls Tryz.prog 266 #[.int .i64 n] w fun e w' => e = .returned (.string ⟨(Lib.itoa n).toArray⟩) ∧ ∃ k os, w' = grow (w.drewN k) os := Any.strconv_Itoa Tryz.laysM171 n h0 h1 w htab
def Tryz.lays264_ren : Go.Shelf.Ren := ⟨fun | 264 => 318 | n => n, fun | 53 => 336 | 46 => 305 | n => n, fun n => n⟩
theorem Tryz.lays264 : Go.Proofs.Lays.n264 Tryz.prog Tryz.lays264_ren := {
  mixed := by kernel_rfl
  f264 := Tryz.func318.trans (congrArg some (by kernel_rfl))
  t46 := Tryz.underlying305
  a46 := Tryz.isAgg305
  z46 := Tryz.sizeOf305
  v46 := Tryz.zeroValue305
  t53 := Tryz.underlying336
  a53 := Tryz.isAgg336
  z53 := Tryz.sizeOf336
  v53 := Tryz.zeroValue336 }
open Go.RowKit Go.Lib in
theorem Tryz.bits_Mul64 (x y : Nat) (hx : x < 18446744073709551616) (hy : y < 18446744073709551616) (w : World) :
    Calls Tryz.prog 318 #[.int .u64 x, .int .u64 y] w fun e w' => e = .returned (.tuple #[.int .u64 ((x * y / 18446744073709551616 : Nat) : Int), .int .u64 ((x * y % 18446744073709551616 : Nat) : Int)]) ∧ w' = w := Any.bits_Mul64 Tryz.lays264 x y hx hy w
end Go.Proofs
