/- What is known of Go's library at this seat: the shelf's contracts, laid in plain words. -/
import Derived.Shelf.Small.Strs
import Derived.Shelf.Strings.Search1
import Derived.Shelf.Strings.Search2
import Derived.Shelf.Strings.Search3
import Derived.Shelf.LaysM
import Derived.Shelf.Strings.Shaped
import Derived.Shelf.Strings.Fields
import Derived.Shelf.Strings.Builder1
import Derived.Shelf.Strings.Builder2
import Derived.Shelf.Strings.OnBuilder
import Derived.Shelf.Strconv.Itoa0
import Derived.Shelf.Strconv.Itoa1
import Derived.Shelf.Strconv.Itoa2
import Derived.Shelf.Strconv.Itoa3
import Derived.Shelf.Strings.Count
import Derived.Shelf.Bits.Mul64
import Derived.Test.YtanjjmgoangmdaaGreatDoorProg
namespace Go.Proofs
open Go.Shelf Go.RowKit Go.Sort
def Tryz.lays137_ren : Go.Shelf.Ren := ⟨fun | 137 => 116 | 217 => 224 | 266 => 293 | n => n, fun | 9 => 9 | 5 => 5 | 3 => 3 | n => n, fun n => n⟩
theorem Tryz.lays137 : Go.Proofs.Lays.n137 Tryz.prog Tryz.lays137_ren := {
  mixed := by kernel_rfl
  f137 := Tryz.func116.trans (congrArg some (by kernel_rfl))
  f217 := Tryz.func224.trans (congrArg some (by kernel_rfl))
  f266 := Tryz.func293.trans (congrArg some (by kernel_rfl))
  t3 := Tryz.underlying3
  a3 := Tryz.isAgg3
  z3 := Tryz.sizeOf3
  v3 := Tryz.zeroValue3
  t5 := Tryz.underlying5
  a5 := Tryz.isAgg5
  z5 := Tryz.sizeOf5
  v5 := Tryz.zeroValue5
  t9 := Tryz.underlying9
  a9 := Tryz.isAgg9
  z9 := Tryz.sizeOf9
  v9 := Tryz.zeroValue9 }
open Go.RowKit in
/-- strings.IndexByte: "IndexByte returns the index of the first instance of c in s, or -1 if c is not present in s.": IT RETURNS 'Lib.indexByte s c'; the world is as it was. (LAID: no walk: one application.) -/
theorem Tryz.strings_IndexByte (s : ByteArray) (c : Int) (w : World) :
    Calls Tryz.prog 116 #[.string s, .int .u8 c] w fun e w' => e = .returned (.int .i64 (Lib.indexByte s.data.toList c.toNat.toUInt8)) ∧ w' = w := Any.strings_IndexByte Tryz.lays137 s c w
def Tryz.lays144_ren : Go.Shelf.Ren := ⟨fun | 144 => 130 | 143 => 234 | 219 => 296 | 217 => 224 | 225 => 328 | 224 => 329 | 267 => 330 | 266 => 293 | 314 => 351 | n => n, fun | 9 => 9 | 4 => 4 | 3 => 3 | 5 => 5 | 46 => 307 | 146 => 336 | 51 => 321 | n => n, fun | 1 => 2 | n => n⟩
theorem Tryz.lays144 : Go.Proofs.Lays.n144 Tryz.prog Tryz.lays144_ren := {
  mixed := by kernel_rfl
  f143 := Tryz.func234.trans (congrArg some (by kernel_rfl))
  f144 := Tryz.func130.trans (congrArg some (by kernel_rfl))
  f217 := Tryz.func224.trans (congrArg some (by kernel_rfl))
  f219 := Tryz.func296.trans (congrArg some (by kernel_rfl))
  f224 := Tryz.func329.trans (congrArg some (by kernel_rfl))
  f225 := Tryz.func328.trans (congrArg some (by kernel_rfl))
  f266 := Tryz.func293.trans (congrArg some (by kernel_rfl))
  f267 := Tryz.func330.trans (congrArg some (by kernel_rfl))
  f314 := Tryz.func351.trans (congrArg some (by kernel_rfl))
  t3 := Tryz.underlying3
  a3 := Tryz.isAgg3
  z3 := Tryz.sizeOf3
  v3 := Tryz.zeroValue3
  t4 := Tryz.underlying4
  a4 := Tryz.isAgg4
  z4 := Tryz.sizeOf4
  v4 := Tryz.zeroValue4
  t5 := Tryz.underlying5
  a5 := Tryz.isAgg5
  z5 := Tryz.sizeOf5
  v5 := Tryz.zeroValue5
  t9 := Tryz.underlying9
  a9 := Tryz.isAgg9
  z9 := Tryz.sizeOf9
  v9 := Tryz.zeroValue9
  t46 := Tryz.underlying307
  a46 := Tryz.isAgg307
  z46 := Tryz.sizeOf307
  v46 := Tryz.zeroValue307
  t51 := Tryz.underlying321
  a51 := Tryz.isAgg321
  z51 := Tryz.sizeOf321
  v51 := Tryz.zeroValue321
  t146 := Tryz.underlying336
  a146 := Tryz.isAgg336
  z146 := Tryz.sizeOf336
  v146 := Tryz.zeroValue336
  g1 := by kernel_rfl }
open Go.RowKit Go.Lib in
/-- strings.Contains: "Contains reports whether substr is within s.": IT RETURNS 'Lib.contains s substr'; the world is as it was. (LAID: no walk: one application.) -/
theorem Tryz.strings_Contains (s sub : ByteArray) (m : Int) (w : World) (hs : s.size < 4294967281) (hm : w.cell? ⟨2, 0, none⟩ = some (.int .i64 m)) :
    Calls Tryz.prog 130 #[.string s, .string sub] w fun e w' => e = .returned (.bool (Lib.contains s.data.toList sub.data.toList)) ∧ w' = w := Any.strings_Contains Tryz.lays144 s sub m w hs hm
def Tryz.laysM144_ren : Go.Shelf.Ren := ⟨fun | 144 => 130 | 143 => 234 | 219 => 296 | 217 => 224 | 225 => 328 | 224 => 329 | 267 => 330 | 266 => 293 | 314 => 351 | n => n, fun | 9 => 9 | 4 => 4 | 3 => 3 | 5 => 5 | 46 => 307 | 146 => 336 | 51 => 321 | n => n, fun | 1 => 2 | n => n⟩
theorem Tryz.laysM144 : Go.Proofs.LaysM.n144 Tryz.prog Tryz.laysM144_ren := {
  mixed := by kernel_rfl
  f143 := Tryz.func234.trans (congrArg some (by kernel_rfl))
  f144 := Tryz.func130.trans (congrArg some (by kernel_rfl))
  f217 := Tryz.func224.trans (congrArg some (by kernel_rfl))
  f219 := Tryz.func296.trans (congrArg some (by kernel_rfl))
  f224 := Tryz.func329.trans (congrArg some (by kernel_rfl))
  f225 := Tryz.func328.trans (congrArg some (by kernel_rfl))
  f266 := Tryz.func293.trans (congrArg some (by kernel_rfl))
  f267 := Tryz.func330.trans (congrArg some (by kernel_rfl))
  f314 := Tryz.func351.trans (congrArg some (by kernel_rfl))
  t3 := Tryz.underlying3
  a3 := Tryz.isAgg3
  z3 := Tryz.sizeOf3
  v3 := Tryz.zeroValue3
  t4 := Tryz.underlying4
  a4 := Tryz.isAgg4
  z4 := Tryz.sizeOf4
  v4 := Tryz.zeroValue4
  t5 := Tryz.underlying5
  a5 := Tryz.isAgg5
  z5 := Tryz.sizeOf5
  v5 := Tryz.zeroValue5
  t9 := Tryz.underlying9
  a9 := Tryz.isAgg9
  z9 := Tryz.sizeOf9
  v9 := Tryz.zeroValue9
  t46 := Tryz.underlying307
  a46 := Tryz.isAgg307
  z46 := Tryz.sizeOf307
  v46 := Tryz.zeroValue307
  t51 := Tryz.underlying321
  a51 := Tryz.isAgg321
  z51 := Tryz.sizeOf321
  v51 := Tryz.zeroValue321
  t146 := Tryz.underlying336
  a146 := Tryz.isAgg336
  z146 := Tryz.sizeOf336
  v146 := Tryz.zeroValue336
  g1 := by kernel_rfl
  i3 := by kernel_rfl
  i4 := by kernel_rfl
  i5 := by kernel_rfl
  i9 := by kernel_rfl
  i46 := by kernel_rfl
  i51 := by kernel_rfl
  i146 := by kernel_rfl
  m1 := by kernel_rfl
  s1_3 := fun w h => Go.Proofs.cell_of_shapedOpen_int (zero := #[.int .i64 0]) (t := 3) h (of_decide_eq_true (by kernel_rfl)) (by kernel_rfl) rfl (by kernel_rfl) (by kernel_rfl) Tryz.underlying3 }
def Tryz.lays157_ren : Go.Shelf.Ren := ⟨fun | 157 => 125 | 229 => 226 | 199 => 227 | 261 => 294 | 311 => 325 | 312 => 326 | n => n, fun | 9 => 9 | 31 => 23 | 3 => 3 | 5 => 5 | 4 => 4 | 119 => 272 | 0 => 0 | 40 => 274 | 152 => 318 | 21 => 21 | 154 => 320 | 51 => 321 | 141 => 323 | 196 => 350 | 193 => 347 | 198 => 353 | 49 => 351 | 194 => 348 | 201 => 356 | 226 => 370 | 46 => 307 | 227 => 371 | n => n, fun | 0 => 0 | 6 => 1 | n => n⟩
theorem Tryz.lays157 : Go.Proofs.Lays.n157 Tryz.prog Tryz.lays157_ren := {
  mixed := by kernel_rfl
  f157 := Tryz.func125.trans (congrArg some (by kernel_rfl))
  f199 := Tryz.func227.trans (congrArg some (by kernel_rfl))
  f229 := Tryz.func226.trans (congrArg some (by kernel_rfl))
  f261 := Tryz.func294.trans (congrArg some (by kernel_rfl))
  f311 := Tryz.func325.trans (congrArg some (by kernel_rfl))
  f312 := Tryz.func326.trans (congrArg some (by kernel_rfl))
  t0 := Tryz.underlying0
  a0 := Tryz.isAgg0
  z0 := Tryz.sizeOf0
  v0 := Tryz.zeroValue0
  t3 := Tryz.underlying3
  a3 := Tryz.isAgg3
  z3 := Tryz.sizeOf3
  v3 := Tryz.zeroValue3
  t4 := Tryz.underlying4
  a4 := Tryz.isAgg4
  z4 := Tryz.sizeOf4
  v4 := Tryz.zeroValue4
  t5 := Tryz.underlying5
  a5 := Tryz.isAgg5
  z5 := Tryz.sizeOf5
  v5 := Tryz.zeroValue5
  t9 := Tryz.underlying9
  a9 := Tryz.isAgg9
  z9 := Tryz.sizeOf9
  v9 := Tryz.zeroValue9
  t21 := Tryz.underlying21
  a21 := Tryz.isAgg21
  z21 := Tryz.sizeOf21
  v21 := Tryz.zeroValue21
  t31 := Tryz.underlying23
  a31 := Tryz.isAgg23
  z31 := Tryz.sizeOf23
  v31 := Tryz.zeroValue23
  t40 := Tryz.underlying274
  a40 := Tryz.isAgg274
  z40 := Tryz.sizeOf274
  v40 := Tryz.zeroValue274
  t46 := Tryz.underlying307
  a46 := Tryz.isAgg307
  z46 := Tryz.sizeOf307
  v46 := Tryz.zeroValue307
  t49 := Tryz.underlying351
  a49 := Tryz.isAgg351
  z49 := Tryz.sizeOf351
  v49 := Tryz.zeroValue351
  t51 := Tryz.underlying321
  a51 := Tryz.isAgg321
  z51 := Tryz.sizeOf321
  v51 := Tryz.zeroValue321
  t119 := Tryz.underlying272
  a119 := Tryz.isAgg272
  z119 := Tryz.sizeOf272
  t141 := Tryz.underlying323
  a141 := Tryz.isAgg323
  z141 := Tryz.sizeOf323
  v141 := Tryz.zeroValue323
  t152 := Tryz.underlying318
  a152 := Tryz.isAgg318
  z152 := Tryz.sizeOf318
  v152 := Tryz.zeroValue318
  t154 := Tryz.underlying320
  a154 := Tryz.isAgg320
  z154 := Tryz.sizeOf320
  v154 := Tryz.zeroValue320
  t193 := Tryz.underlying347
  a193 := Tryz.isAgg347
  z193 := Tryz.sizeOf347
  v193 := Tryz.zeroValue347
  t194 := Tryz.underlying348
  a194 := Tryz.isAgg348
  z194 := Tryz.sizeOf348
  v194 := Tryz.zeroValue348
  t196 := Tryz.underlying350
  a196 := Tryz.isAgg350
  z196 := Tryz.sizeOf350
  v196 := Tryz.zeroValue350
  t198 := Tryz.underlying353
  a198 := Tryz.isAgg353
  z198 := Tryz.sizeOf353
  v198 := Tryz.zeroValue353
  t201 := Tryz.underlying356
  a201 := Tryz.isAgg356
  z201 := Tryz.sizeOf356
  v201 := Tryz.zeroValue356
  t226 := Tryz.underlying370
  a226 := Tryz.isAgg370
  z226 := Tryz.sizeOf370
  v226 := Tryz.zeroValue370
  t227 := Tryz.underlying371
  a227 := Tryz.isAgg371
  z227 := Tryz.sizeOf371
  v227 := Tryz.zeroValue371
  g0 := by kernel_rfl
  g6 := by kernel_rfl }
open Go.RowKit Go.Lib in
/-- strings.Fields, the table by 'Lib.TabIs' (as strings.TrimSpace's contract). 'hg': the table's number, by its name: at a dump 'by kernel_rfl'. (LAID: no walk: one application.) -/
theorem Tryz.strings_Fields (s : ByteArray) (w : World) (hs : s.size < 4294967281) (hascii : ∀ (j : Nat) b, s.data.toList[j]? = some b → b.toNat < 128) (htab : Lib.TabIs Tryz.prog w "strings.asciiSpace" .u8 Lib.asciiSpaceTab) :
    Calls Tryz.prog 125 #[.string s] w fun e w' =>
      e = .returned (.slice (some ⟨w.heap.size, 0, none⟩) (Lib.fields s.data.toList).length (Lib.fields s.data.toList).length) ∧ w' = w.alloc (.cells ((Lib.fields s.data.toList).map fun l => Value.string ⟨l.toArray⟩).toArray 9) := Any.strings_Fields Tryz.lays157 (by kernel_rfl) (by kernel_rfl) s w hs hascii htab
def Tryz.lays156_ren : Go.Shelf.Ren := ⟨fun | 156 => 359 | 165 => 377 | 166 => 378 | 169 => 379 | 240 => 385 | 241 => 386 | 276 => 395 | 277 => 396 | n => n, fun | 31 => 23 | 9 => 9 | 3 => 3 | 4 => 4 | 0 => 0 | 20 => 20 | 72 => 395 | 76 => 398 | 70 => 393 | 37 => 29 | 75 => 397 | 127 => 405 | 164 => 412 | 5 => 5 | 80 => 279 | n => n, fun n => n⟩
theorem Tryz.lays156 : Go.Proofs.Lays.n156 Tryz.prog Tryz.lays156_ren := {
  mixed := by kernel_rfl
  f156 := Tryz.func359.trans (congrArg some (by kernel_rfl))
  f165 := Tryz.func377.trans (congrArg some (by kernel_rfl))
  f166 := Tryz.func378.trans (congrArg some (by kernel_rfl))
  f169 := Tryz.func379.trans (congrArg some (by kernel_rfl))
  f240 := Tryz.func385.trans (congrArg some (by kernel_rfl))
  f241 := Tryz.func386.trans (congrArg some (by kernel_rfl))
  f276 := Tryz.func395.trans (congrArg some (by kernel_rfl))
  f277 := Tryz.func396.trans (congrArg some (by kernel_rfl))
  t0 := Tryz.underlying0
  a0 := Tryz.isAgg0
  z0 := Tryz.sizeOf0
  v0 := Tryz.zeroValue0
  t3 := Tryz.underlying3
  a3 := Tryz.isAgg3
  z3 := Tryz.sizeOf3
  v3 := Tryz.zeroValue3
  t4 := Tryz.underlying4
  a4 := Tryz.isAgg4
  z4 := Tryz.sizeOf4
  v4 := Tryz.zeroValue4
  t9 := Tryz.underlying9
  a9 := Tryz.isAgg9
  z9 := Tryz.sizeOf9
  v9 := Tryz.zeroValue9
  t20 := Tryz.underlying20
  a20 := Tryz.isAgg20
  z20 := Tryz.sizeOf20
  v20 := Tryz.zeroValue20
  t31 := Tryz.underlying23
  a31 := Tryz.isAgg23
  z31 := Tryz.sizeOf23
  v31 := Tryz.zeroValue23
  t37 := Tryz.underlying29
  a37 := Tryz.isAgg29
  z37 := Tryz.sizeOf29
  v37 := Tryz.zeroValue29
  t70 := Tryz.underlying393
  a70 := Tryz.isAgg393
  z70 := Tryz.sizeOf393
  v70 := Tryz.zeroValue393
  t72 := Tryz.underlying395
  a72 := Tryz.isAgg395
  z72 := Tryz.sizeOf395
  v72 := Tryz.zeroValue395
  t75 := Tryz.underlying397
  a75 := Tryz.isAgg397
  z75 := Tryz.sizeOf397
  v75 := Tryz.zeroValue397
  t76 := Tryz.underlying398
  a76 := Tryz.isAgg398
  z76 := Tryz.sizeOf398
  v76 := Tryz.zeroValue398
  t127 := Tryz.underlying405
  a127 := Tryz.isAgg405
  z127 := Tryz.sizeOf405
  v127 := Tryz.zeroValue405
  t164 := Tryz.underlying412
  a164 := Tryz.isAgg412
  z164 := Tryz.sizeOf412
  v164 := Tryz.zeroValue412 }
theorem Tryz.Builder_Extra_156 : Builder.Extra Tryz.prog Tryz.lays156_ren := {
  sizeBuilder := by kernel_rfl
  liesBuilder := by kernel_rfl
  t5 := Tryz.underlying5
  a5 := Tryz.isAgg5
  z5 := Tryz.sizeOf5
  v5 := Tryz.zeroValue5
  infoByte := by kernel_rfl
  cellsByte := by kernel_rfl
  sizeByte := by kernel_rfl
  neB5 := by decide }
/-- strings.Join: "Join concatenates the elements of its first argument to create a single string. The separator string sep is placed between elements in the resulting string.": HOWEVER MANY ELEMENTS. Below the heap's end the world is as it was. (LAID: no walk: one application.) -/
theorem Tryz.strings_Join (bk o c : Nat) (xs : List ByteArray) (sep : ByteArray) (w : World) (hcells : ∀ (j : Nat) x, xs[j]? = some x → w.cell? ⟨bk, o + j, none⟩ = some (.string x)) (hbk : bk < w.heap.size) (hN : xs.length ≤ 140737488355328) (hcap : xs.length ≤ c) (hlen : (Lib.join (xs.map (·.data.toList)) sep.data.toList).length ≤ 140737488355328) :
    Calls Tryz.prog 359 #[.slice (some ⟨bk, o, none⟩) xs.length c, .string sep] w fun e w' => e = .returned (.string ⟨(Lib.join (xs.map (·.data.toList)) sep.data.toList).toArray⟩) ∧ Below w.heap.size w w' := Any.strings_Join Tryz.lays156 Tryz.Builder_Extra_156 bk o c xs sep w hcells hbk hN hcap hlen
def Tryz.laysM171_ren : Go.Shelf.Ren := ⟨fun | 171 => 267 | 243 => 301 | 246 => 332 | 283 => 353 | 284 => 354 | 285 => 355 | 286 => 356 | 129 => 373 | 317 => 372 | 318 => 374 | 319 => 375 | 320 => 376 | 337 => 383 | 338 => 384 | n => n, fun | 3 => 3 | 9 => 9 | 2 => 2 | 4 => 4 | 171 => 373 | 0 => 0 | 53 => 338 | 37 => 29 | 5 => 5 | 173 => 376 | 212 => 390 | 51 => 321 | 20 => 20 | 213 => 391 | 46 => 307 | 232 => 410 | 233 => 411 | n => n, fun | 17 => 3 | 18 => 4 | 19 => 5 | n => n⟩
theorem Tryz.laysM171 : Go.Proofs.LaysM.n171 Tryz.prog Tryz.laysM171_ren := {
  mixed := by kernel_rfl
  f129 := Tryz.func373.trans (congrArg some (by kernel_rfl))
  f171 := Tryz.func267.trans (congrArg some (by kernel_rfl))
  f243 := Tryz.func301.trans (congrArg some (by kernel_rfl))
  f246 := Tryz.func332.trans (congrArg some (by kernel_rfl))
  f283 := Tryz.func353.trans (congrArg some (by kernel_rfl))
  f284 := Tryz.func354.trans (congrArg some (by kernel_rfl))
  f285 := Tryz.func355.trans (congrArg some (by kernel_rfl))
  f286 := Tryz.func356.trans (congrArg some (by kernel_rfl))
  f317 := Tryz.func372.trans (congrArg some (by kernel_rfl))
  f318 := Tryz.func374.trans (congrArg some (by kernel_rfl))
  f319 := Tryz.func375.trans (congrArg some (by kernel_rfl))
  f320 := Tryz.func376.trans (congrArg some (by kernel_rfl))
  f337 := Tryz.func383.trans (congrArg some (by kernel_rfl))
  f338 := Tryz.func384.trans (congrArg some (by kernel_rfl))
  t0 := Tryz.underlying0
  a0 := Tryz.isAgg0
  z0 := Tryz.sizeOf0
  v0 := Tryz.zeroValue0
  t2 := Tryz.underlying2
  a2 := Tryz.isAgg2
  z2 := Tryz.sizeOf2
  v2 := Tryz.zeroValue2
  t3 := Tryz.underlying3
  a3 := Tryz.isAgg3
  z3 := Tryz.sizeOf3
  v3 := Tryz.zeroValue3
  t4 := Tryz.underlying4
  a4 := Tryz.isAgg4
  z4 := Tryz.sizeOf4
  v4 := Tryz.zeroValue4
  t5 := Tryz.underlying5
  a5 := Tryz.isAgg5
  z5 := Tryz.sizeOf5
  v5 := Tryz.zeroValue5
  t9 := Tryz.underlying9
  a9 := Tryz.isAgg9
  z9 := Tryz.sizeOf9
  v9 := Tryz.zeroValue9
  t20 := Tryz.underlying20
  a20 := Tryz.isAgg20
  z20 := Tryz.sizeOf20
  v20 := Tryz.zeroValue20
  t37 := Tryz.underlying29
  a37 := Tryz.isAgg29
  z37 := Tryz.sizeOf29
  v37 := Tryz.zeroValue29
  t46 := Tryz.underlying307
  a46 := Tryz.isAgg307
  z46 := Tryz.sizeOf307
  v46 := Tryz.zeroValue307
  t51 := Tryz.underlying321
  a51 := Tryz.isAgg321
  z51 := Tryz.sizeOf321
  v51 := Tryz.zeroValue321
  t53 := Tryz.underlying338
  a53 := Tryz.isAgg338
  z53 := Tryz.sizeOf338
  v53 := Tryz.zeroValue338
  t171 := Tryz.underlying373
  a171 := Tryz.isAgg373
  z171 := Tryz.sizeOf373
  v171 := Tryz.zeroValue373
  t173 := Tryz.underlying376
  a173 := Tryz.isAgg376
  z173 := Tryz.sizeOf376
  v173 := Tryz.zeroValue376
  t212 := Tryz.underlying390
  a212 := Tryz.isAgg390
  z212 := Tryz.sizeOf390
  v212 := Tryz.zeroValue390
  t213 := Tryz.underlying391
  a213 := Tryz.isAgg391
  z213 := Tryz.sizeOf391
  t232 := Tryz.underlying410
  a232 := Tryz.isAgg410
  z232 := Tryz.sizeOf410
  v232 := Tryz.zeroValue410
  t233 := Tryz.underlying411
  a233 := Tryz.isAgg411
  z233 := Tryz.sizeOf411
  v233 := Tryz.zeroValue411
  g17 := by kernel_rfl
  g18 := by kernel_rfl
  g19 := by kernel_rfl
  i0 := by kernel_rfl
  i2 := by kernel_rfl
  i3 := by kernel_rfl
  i4 := by kernel_rfl
  i5 := by kernel_rfl
  i9 := by kernel_rfl
  i20 := by kernel_rfl
  i37 := by kernel_rfl
  i46 := by kernel_rfl
  i51 := by kernel_rfl
  i53 := by kernel_rfl
  i171 := by kernel_rfl
  i173 := by kernel_rfl
  i212 := by kernel_rfl
  i232 := by kernel_rfl
  i233 := by kernel_rfl
  m17 := by kernel_rfl
  m18 := by kernel_rfl
  m19 := by kernel_rfl }
/-- strconv.Itoa: "Itoa is equivalent to FormatInt(int64(i), 10).": i's DECIMAL NUMERAL ('Lib.itoa': a '-' where i is negative, then the digits), FOR EVERY int. The world behind the call: the world before it, new blocks behind the heap (the library's 'var a [24]byte'), draws. (LAID: no walk: one application.) -/
theorem Tryz.strconv_Itoa (n : Int) (h0 : -9223372036854775808 ≤ n) (h1 : n ≤ 9223372036854775807) (w : World) (htab : Lib.TabIs Tryz.prog w "internal/strconv.uint64pow10" .u64 Lib.pow10Tab) :
    Calls Tryz.prog 267 #[.int .i64 n] w fun e w' => e = .returned (.string ⟨(Lib.itoa n).toArray⟩) ∧ ∃ k os, w' = grow (w.drewN k) os := Any.strconv_Itoa Tryz.laysM171 n h0 h1 w htab
def Tryz.lays264_ren : Go.Shelf.Ren := ⟨fun | 264 => 319 | n => n, fun | 53 => 338 | 46 => 307 | n => n, fun n => n⟩
theorem Tryz.lays264 : Go.Proofs.Lays.n264 Tryz.prog Tryz.lays264_ren := {
  mixed := by kernel_rfl
  f264 := Tryz.func319.trans (congrArg some (by kernel_rfl))
  t46 := Tryz.underlying307
  a46 := Tryz.isAgg307
  z46 := Tryz.sizeOf307
  v46 := Tryz.zeroValue307
  t53 := Tryz.underlying338
  a53 := Tryz.isAgg338
  z53 := Tryz.sizeOf338
  v53 := Tryz.zeroValue338 }
open Go.RowKit Go.Lib in
theorem Tryz.bits_Mul64 (x y : Nat) (hx : x < 18446744073709551616) (hy : y < 18446744073709551616) (w : World) :
    Calls Tryz.prog 319 #[.int .u64 x, .int .u64 y] w fun e w' => e = .returned (.tuple #[.int .u64 ((x * y / 18446744073709551616 : Nat) : Int), .int .u64 ((x * y % 18446744073709551616 : Nat) : Int)]) ∧ w' = w := Any.bits_Mul64 Tryz.lays264 x y hx hy w
end Go.Proofs
