/- What is known of Go's library at this seat: the shelf's contracts, laid in plain words. -/
import Derived.Shelf.Small.Strs
import Derived.Shelf.Strings.Search1
import Derived.Shelf.Strings.Search2
import Derived.Shelf.Strings.Search3
import Derived.Shelf.LaysM
import Derived.Shelf.Strings.Shaped
import Derived.Shelf.Strings.Fields
import Derived.Shelf.Strings.Builder1
import Derived.Shelf.Strings.Builder2
import Derived.Shelf.Strings.OnBuilder
import Derived.Shelf.Strconv.Itoa0
import Derived.Shelf.Strconv.Itoa1
import Derived.Shelf.Strconv.Itoa2
import Derived.Shelf.Strconv.Itoa3
import Derived.Shelf.Strings.Count
import Derived.Shelf.Unicode.Latin
import Derived.Shelf.Bits.Mul64
import Derived.Shelf.Unicode.Is16White
import Derived.Shelf.Unicode.IsSpaceAny
import Derived.Shelf.Unicode.Is16Any
import Derived.Shelf.Unicode.Is32Any
import Derived.Shelf.Unicode.ExclAny
import Derived.Test.YtkjoknbaihgedaaGreatDoorProg
namespace Go.Proofs
open Go.Shelf Go.RowKit Go.Sort
def Tryz.lays157_ren : Go.Shelf.Ren := ⟨fun | 157 => 75 | 229 => 104 | 199 => 105 | 261 => 121 | 311 => 129 | 312 => 130 | n => n, fun | 9 => 9 | 31 => 24 | 3 => 3 | 5 => 5 | 4 => 4 | 119 => 163 | 0 => 0 | 40 => 165 | 152 => 173 | 21 => 21 | 154 => 175 | 51 => 176 | 141 => 178 | 196 => 204 | 193 => 201 | 198 => 207 | 49 => 205 | 194 => 202 | 201 => 210 | 226 => 220 | 46 => 170 | 227 => 221 | n => n, fun | 0 => 0 | 6 => 2 | n => n⟩
theorem Tryz.lays157 : Go.Proofs.Lays.n157 Tryz.prog Tryz.lays157_ren := {
  mixed := by kernel_rfl
  f157 := Tryz.func75.trans (congrArg some (by kernel_rfl))
  f199 := Tryz.func105.trans (congrArg some (by kernel_rfl))
  f229 := Tryz.func104.trans (congrArg some (by kernel_rfl))
  f261 := Tryz.func121.trans (congrArg some (by kernel_rfl))
  f311 := Tryz.func129.trans (congrArg some (by kernel_rfl))
  f312 := Tryz.func130.trans (congrArg some (by kernel_rfl))
  t0 := Tryz.underlying0
  a0 := Tryz.isAgg0
  z0 := Tryz.sizeOf0
  v0 := Tryz.zeroValue0
  t3 := Tryz.underlying3
  a3 := Tryz.isAgg3
  z3 := Tryz.sizeOf3
  v3 := Tryz.zeroValue3
  t4 := Tryz.underlying4
  a4 := Tryz.isAgg4
  z4 := Tryz.sizeOf4
  v4 := Tryz.zeroValue4
  t5 := Tryz.underlying5
  a5 := Tryz.isAgg5
  z5 := Tryz.sizeOf5
  v5 := Tryz.zeroValue5
  t9 := Tryz.underlying9
  a9 := Tryz.isAgg9
  z9 := Tryz.sizeOf9
  v9 := Tryz.zeroValue9
  t21 := Tryz.underlying21
  a21 := Tryz.isAgg21
  z21 := Tryz.sizeOf21
  v21 := Tryz.zeroValue21
  t31 := Tryz.underlying24
  a31 := Tryz.isAgg24
  z31 := Tryz.sizeOf24
  v31 := Tryz.zeroValue24
  t40 := Tryz.underlying165
  a40 := Tryz.isAgg165
  z40 := Tryz.sizeOf165
  v40 := Tryz.zeroValue165
  t46 := Tryz.underlying170
  a46 := Tryz.isAgg170
  z46 := Tryz.sizeOf170
  v46 := Tryz.zeroValue170
  t49 := Tryz.underlying205
  a49 := Tryz.isAgg205
  z49 := Tryz.sizeOf205
  v49 := Tryz.zeroValue205
  t51 := Tryz.underlying176
  a51 := Tryz.isAgg176
  z51 := Tryz.sizeOf176
  v51 := Tryz.zeroValue176
  t119 := Tryz.underlying163
  a119 := Tryz.isAgg163
  z119 := Tryz.sizeOf163
  t141 := Tryz.underlying178
  a141 := Tryz.isAgg178
  z141 := Tryz.sizeOf178
  v141 := Tryz.zeroValue178
  t152 := Tryz.underlying173
  a152 := Tryz.isAgg173
  z152 := Tryz.sizeOf173
  v152 := Tryz.zeroValue173
  t154 := Tryz.underlying175
  a154 := Tryz.isAgg175
  z154 := Tryz.sizeOf175
  v154 := Tryz.zeroValue175
  t193 := Tryz.underlying201
  a193 := Tryz.isAgg201
  z193 := Tryz.sizeOf201
  v193 := Tryz.zeroValue201
  t194 := Tryz.underlying202
  a194 := Tryz.isAgg202
  z194 := Tryz.sizeOf202
  v194 := Tryz.zeroValue202
  t196 := Tryz.underlying204
  a196 := Tryz.isAgg204
  z196 := Tryz.sizeOf204
  v196 := Tryz.zeroValue204
  t198 := Tryz.underlying207
  a198 := Tryz.isAgg207
  z198 := Tryz.sizeOf207
  v198 := Tryz.zeroValue207
  t201 := Tryz.underlying210
  a201 := Tryz.isAgg210
  z201 := Tryz.sizeOf210
  v201 := Tryz.zeroValue210
  t226 := Tryz.underlying220
  a226 := Tryz.isAgg220
  z226 := Tryz.sizeOf220
  v226 := Tryz.zeroValue220
  t227 := Tryz.underlying221
  a227 := Tryz.isAgg221
  z227 := Tryz.sizeOf221
  v227 := Tryz.zeroValue221
  g0 := by kernel_rfl
  g6 := by kernel_rfl }
open Go.RowKit Go.Lib in
/-- strings.Fields, the table by 'Lib.TabIs' (as strings.TrimSpace's contract). 'hg': the table's number, by its name: at a dump 'by kernel_rfl'. (LAID: no walk: one application.) -/
theorem Tryz.strings_Fields (s : ByteArray) (w : World) (hs : s.size < 4294967281) (hascii : ∀ (j : Nat) b, s.data.toList[j]? = some b → b.toNat < 128) (htab : Lib.TabIs Tryz.prog w "strings.asciiSpace" .u8 Lib.asciiSpaceTab) :
    Calls Tryz.prog 75 #[.string s] w fun e w' =>
      e = .returned (.slice (some ⟨w.heap.size, 0, none⟩) (Lib.fields s.data.toList).length (Lib.fields s.data.toList).length) ∧ w' = w.alloc (.cells ((Lib.fields s.data.toList).map fun l => Value.string ⟨l.toArray⟩).toArray 9) := Any.strings_Fields Tryz.lays157 (by kernel_rfl) (by kernel_rfl) s w hs hascii htab
def Tryz.lays156_ren : Go.Shelf.Ren := ⟨fun | 156 => 58 | 165 => 89 | 166 => 90 | 169 => 73 | 240 => 110 | 241 => 111 | 276 => 122 | 277 => 123 | n => n, fun | 31 => 24 | 9 => 9 | 3 => 3 | 4 => 4 | 0 => 0 | 20 => 20 | 72 => 121 | 76 => 151 | 70 => 118 | 37 => 119 | 75 => 150 | 127 => 161 | 164 => 179 | 5 => 5 | 80 => 125 | n => n, fun n => n⟩
theorem Tryz.lays156 : Go.Proofs.Lays.n156 Tryz.prog Tryz.lays156_ren := {
  mixed := by kernel_rfl
  f156 := Tryz.func58.trans (congrArg some (by kernel_rfl))
  f165 := Tryz.func89.trans (congrArg some (by kernel_rfl))
  f166 := Tryz.func90.trans (congrArg some (by kernel_rfl))
  f169 := Tryz.func73.trans (congrArg some (by kernel_rfl))
  f240 := Tryz.func110.trans (congrArg some (by kernel_rfl))
  f241 := Tryz.func111.trans (congrArg some (by kernel_rfl))
  f276 := Tryz.func122.trans (congrArg some (by kernel_rfl))
  f277 := Tryz.func123.trans (congrArg some (by kernel_rfl))
  t0 := Tryz.underlying0
  a0 := Tryz.isAgg0
  z0 := Tryz.sizeOf0
  v0 := Tryz.zeroValue0
  t3 := Tryz.underlying3
  a3 := Tryz.isAgg3
  z3 := Tryz.sizeOf3
  v3 := Tryz.zeroValue3
  t4 := Tryz.underlying4
  a4 := Tryz.isAgg4
  z4 := Tryz.sizeOf4
  v4 := Tryz.zeroValue4
  t9 := Tryz.underlying9
  a9 := Tryz.isAgg9
  z9 := Tryz.sizeOf9
  v9 := Tryz.zeroValue9
  t20 := Tryz.underlying20
  a20 := Tryz.isAgg20
  z20 := Tryz.sizeOf20
  v20 := Tryz.zeroValue20
  t31 := Tryz.underlying24
  a31 := Tryz.isAgg24
  z31 := Tryz.sizeOf24
  v31 := Tryz.zeroValue24
  t37 := Tryz.underlying119
  a37 := Tryz.isAgg119
  z37 := Tryz.sizeOf119
  v37 := Tryz.zeroValue119
  t70 := Tryz.underlying118
  a70 := Tryz.isAgg118
  z70 := Tryz.sizeOf118
  v70 := Tryz.zeroValue118
  t72 := Tryz.underlying121
  a72 := Tryz.isAgg121
  z72 := Tryz.sizeOf121
  v72 := Tryz.zeroValue121
  t75 := Tryz.underlying150
  a75 := Tryz.isAgg150
  z75 := Tryz.sizeOf150
  v75 := Tryz.zeroValue150
  t76 := Tryz.underlying151
  a76 := Tryz.isAgg151
  z76 := Tryz.sizeOf151
  v76 := Tryz.zeroValue151
  t127 := Tryz.underlying161
  a127 := Tryz.isAgg161
  z127 := Tryz.sizeOf161
  v127 := Tryz.zeroValue161
  t164 := Tryz.underlying179
  a164 := Tryz.isAgg179
  z164 := Tryz.sizeOf179
  v164 := Tryz.zeroValue179 }
theorem Tryz.Builder_Extra_156 : Builder.Extra Tryz.prog Tryz.lays156_ren := {
  sizeBuilder := by kernel_rfl
  liesBuilder := by kernel_rfl
  t5 := Tryz.underlying5
  a5 := Tryz.isAgg5
  z5 := Tryz.sizeOf5
  v5 := Tryz.zeroValue5
  infoByte := by kernel_rfl
  cellsByte := by kernel_rfl
  sizeByte := by kernel_rfl
  neB5 := by decide }
/-- strings.Join: "Join concatenates the elements of its first argument to create a single string. The separator string sep is placed between elements in the resulting string.": HOWEVER MANY ELEMENTS. Below the heap's end the world is as it was. (LAID: no walk: one application.) -/
theorem Tryz.strings_Join (bk o c : Nat) (xs : List ByteArray) (sep : ByteArray) (w : World) (hcells : ∀ (j : Nat) x, xs[j]? = some x → w.cell? ⟨bk, o + j, none⟩ = some (.string x)) (hbk : bk < w.heap.size) (hN : xs.length ≤ 140737488355328) (hcap : xs.length ≤ c) (hlen : (Lib.join (xs.map (·.data.toList)) sep.data.toList).length ≤ 140737488355328) :
    Calls Tryz.prog 58 #[.slice (some ⟨bk, o, none⟩) xs.length c, .string sep] w fun e w' => e = .returned (.string ⟨(Lib.join (xs.map (·.data.toList)) sep.data.toList).toArray⟩) ∧ Below w.heap.size w w' := Any.strings_Join Tryz.lays156 Tryz.Builder_Extra_156 bk o c xs sep w hcells hbk hN hcap hlen
def Tryz.laysM171_ren : Go.Shelf.Ren := ⟨fun | 171 => 93 | 243 => 113 | 246 => 124 | 283 => 131 | 284 => 132 | 285 => 133 | 286 => 134 | 129 => 139 | 317 => 138 | 318 => 140 | 319 => 141 | 320 => 142 | 337 => 149 | 338 => 150 | n => n, fun | 3 => 3 | 9 => 9 | 2 => 2 | 4 => 4 | 171 => 212 | 0 => 0 | 53 => 213 | 37 => 119 | 5 => 5 | 173 => 216 | 212 => 223 | 51 => 176 | 20 => 20 | 213 => 224 | 46 => 170 | 232 => 255 | 233 => 256 | n => n, fun | 17 => 3 | 18 => 4 | 19 => 5 | n => n⟩
theorem Tryz.laysM171 : Go.Proofs.LaysM.n171 Tryz.prog Tryz.laysM171_ren := {
  mixed := by kernel_rfl
  f129 := Tryz.func139.trans (congrArg some (by kernel_rfl))
  f171 := Tryz.func93.trans (congrArg some (by kernel_rfl))
  f243 := Tryz.func113.trans (congrArg some (by kernel_rfl))
  f246 := Tryz.func124.trans (congrArg some (by kernel_rfl))
  f283 := Tryz.func131.trans (congrArg some (by kernel_rfl))
  f284 := Tryz.func132.trans (congrArg some (by kernel_rfl))
  f285 := Tryz.func133.trans (congrArg some (by kernel_rfl))
  f286 := Tryz.func134.trans (congrArg some (by kernel_rfl))
  f317 := Tryz.func138.trans (congrArg some (by kernel_rfl))
  f318 := Tryz.func140.trans (congrArg some (by kernel_rfl))
  f319 := Tryz.func141.trans (congrArg some (by kernel_rfl))
  f320 := Tryz.func142.trans (congrArg some (by kernel_rfl))
  f337 := Tryz.func149.trans (congrArg some (by kernel_rfl))
  f338 := Tryz.func150.trans (congrArg some (by kernel_rfl))
  t0 := Tryz.underlying0
  a0 := Tryz.isAgg0
  z0 := Tryz.sizeOf0
  v0 := Tryz.zeroValue0
  t2 := Tryz.underlying2
  a2 := Tryz.isAgg2
  z2 := Tryz.sizeOf2
  v2 := Tryz.zeroValue2
  t3 := Tryz.underlying3
  a3 := Tryz.isAgg3
  z3 := Tryz.sizeOf3
  v3 := Tryz.zeroValue3
  t4 := Tryz.underlying4
  a4 := Tryz.isAgg4
  z4 := Tryz.sizeOf4
  v4 := Tryz.zeroValue4
  t5 := Tryz.underlying5
  a5 := Tryz.isAgg5
  z5 := Tryz.sizeOf5
  v5 := Tryz.zeroValue5
  t9 := Tryz.underlying9
  a9 := Tryz.isAgg9
  z9 := Tryz.sizeOf9
  v9 := Tryz.zeroValue9
  t20 := Tryz.underlying20
  a20 := Tryz.isAgg20
  z20 := Tryz.sizeOf20
  v20 := Tryz.zeroValue20
  t37 := Tryz.underlying119
  a37 := Tryz.isAgg119
  z37 := Tryz.sizeOf119
  v37 := Tryz.zeroValue119
  t46 := Tryz.underlying170
  a46 := Tryz.isAgg170
  z46 := Tryz.sizeOf170
  v46 := Tryz.zeroValue170
  t51 := Tryz.underlying176
  a51 := Tryz.isAgg176
  z51 := Tryz.sizeOf176
  v51 := Tryz.zeroValue176
  t53 := Tryz.underlying213
  a53 := Tryz.isAgg213
  z53 := Tryz.sizeOf213
  v53 := Tryz.zeroValue213
  t171 := Tryz.underlying212
  a171 := Tryz.isAgg212
  z171 := Tryz.sizeOf212
  v171 := Tryz.zeroValue212
  t173 := Tryz.underlying216
  a173 := Tryz.isAgg216
  z173 := Tryz.sizeOf216
  v173 := Tryz.zeroValue216
  t212 := Tryz.underlying223
  a212 := Tryz.isAgg223
  z212 := Tryz.sizeOf223
  v212 := Tryz.zeroValue223
  t213 := Tryz.underlying224
  a213 := Tryz.isAgg224
  z213 := Tryz.sizeOf224
  t232 := Tryz.underlying255
  a232 := Tryz.isAgg255
  z232 := Tryz.sizeOf255
  v232 := Tryz.zeroValue255
  t233 := Tryz.underlying256
  a233 := Tryz.isAgg256
  z233 := Tryz.sizeOf256
  v233 := Tryz.zeroValue256
  g17 := by kernel_rfl
  g18 := by kernel_rfl
  g19 := by kernel_rfl
  i0 := by kernel_rfl
  i2 := by kernel_rfl
  i3 := by kernel_rfl
  i4 := by kernel_rfl
  i5 := by kernel_rfl
  i9 := by kernel_rfl
  i20 := by kernel_rfl
  i37 := by kernel_rfl
  i46 := by kernel_rfl
  i51 := by kernel_rfl
  i53 := by kernel_rfl
  i171 := by kernel_rfl
  i173 := by kernel_rfl
  i212 := by kernel_rfl
  i232 := by kernel_rfl
  i233 := by kernel_rfl
  m17 := by kernel_rfl
  m18 := by kernel_rfl
  m19 := by kernel_rfl }
/-- strconv.Itoa: "Itoa is equivalent to FormatInt(int64(i), 10).": i's DECIMAL NUMERAL ('Lib.itoa': a '-' where i is negative, then the digits), FOR EVERY int. The world behind the call: the world before it, new blocks behind the heap (the library's 'var a [24]byte'), draws. (LAID: no walk: one application.) -/
theorem Tryz.strconv_Itoa (n : Int) (h0 : -9223372036854775808 ≤ n) (h1 : n ≤ 9223372036854775807) (w : World) (htab : Lib.TabIs Tryz.prog w "internal/strconv.uint64pow10" .u64 Lib.pow10Tab) :
    Calls Tryz.prog 93 #[.int .i64 n] w fun e w' => e = .returned (.string ⟨(Lib.itoa n).toArray⟩) ∧ ∃ k os, w' = grow (w.drewN k) os := Any.strconv_Itoa Tryz.laysM171 n h0 h1 w htab
end Go.Proofs
