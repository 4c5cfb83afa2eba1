/-
  DERIVED: THE SHELF's CONTRACTS AT THIS DUMP, IN PLAIN WORDS (tools/lay-plain.mjs out of 'TryzShelf.lean', which tools/lay-shelf.mjs wrote): THE SAME DECLARATIONS UNDER THE SAME NAMES: 'import', 'namespace', 'open', 'def', 'theorem' AND NOTHING ELSE: no command of the shelf's: FOR A HAND-IN. Each laying: the table of numbers ('.._ren') and one theorem, a field a fact of the dump's own or the kernel's comparison; each contract: ONE APPLICATION.
-/
import Derived.Shelf.Strings.Builder1
import Derived.Shelf.Strings.Builder2
import Derived.Shelf.Strings.OnBuilder
import Derived.Shelf.Small.Wraps
import Derived.Shelf.Utf8.RuneCount
import Derived.Shelf.Strconv.Itoa0
import Derived.Shelf.Strconv.Itoa1
import Derived.Shelf.LaysM
import Derived.Shelf.Strconv.Itoa2
import Derived.Shelf.Strconv.Itoa3
import Derived.Shelf.Strings.Search1
import Derived.Shelf.Strings.Search2
import Derived.Shelf.Strings.Search3
import Derived.Shelf.Strings.Cut
import Derived.Shelf.Strings.Count
import Derived.Shelf.Strings.Shaped
import Derived.Shelf.Strings.LastIndex
import Derived.Shelf.Strings.Prefix
import Derived.Shelf.Strings.Split
import Derived.Shelf.Strings.SplitShaped
import Derived.Shelf.Unicode.Decode
import Derived.Shelf.Strings.RuneCount
import Derived.Shelf.Strings.Explode
import Derived.Shelf.Unicode.DecodeSlow
import Derived.Shelf.Unicode.DecodeAny
import Derived.Shelf.Slices.Turned
import Derived.Shelf.Slices.Reverse
import Derived.Shelf.Slices.Equal
import Derived.Ground.Names2Prog
import Derived.Shelf.Slices.SearchI
import Derived.Shelf.Slices.Cells
import Derived.Shelf.Slices.Empties2
import Derived.Ground.SlgnProg
import Derived.Shelf.SlicesE.Reverse
import Derived.Ground.SlgfProg
import Derived.Shelf.SlicesE.IndexFunc
import Derived.Ground.PaProg
import Derived.Shelf.Path.Small
import Derived.Test.YtnpbopadajbopaaGreatDoorProg
namespace Go.Proofs
open Go.Shelf
def Tryz.lays156_ren : Go.Shelf.Ren := ⟨fun | 156 => 237 | 165 => 245 | 166 => 246 | 169 => 247 | 240 => 257 | 241 => 258 | 276 => 269 | 277 => 270 | n => n, fun | 31 => 192 | 9 => 9 | 3 => 3 | 4 => 4 | 0 => 0 | 20 => 20 | 72 => 226 | 76 => 230 | 70 => 224 | 37 => 24 | 75 => 229 | 127 => 235 | 164 => 248 | 5 => 5 | 80 => 177 | n => n, fun | n => n⟩
theorem Tryz.lays156 : Go.Proofs.Lays.n156 Tryz.prog Tryz.lays156_ren := {
  mixed := by kernel_rfl
  f156 := Tryz.func237.trans (congrArg some (by kernel_rfl))
  f165 := Tryz.func245.trans (congrArg some (by kernel_rfl))
  f166 := Tryz.func246.trans (congrArg some (by kernel_rfl))
  f169 := Tryz.func247.trans (congrArg some (by kernel_rfl))
  f240 := Tryz.func257.trans (congrArg some (by kernel_rfl))
  f241 := Tryz.func258.trans (congrArg some (by kernel_rfl))
  f276 := Tryz.func269.trans (congrArg some (by kernel_rfl))
  f277 := Tryz.func270.trans (congrArg some (by kernel_rfl))
  t0 := Tryz.underlying0
  a0 := Tryz.isAgg0
  z0 := Tryz.sizeOf0
  v0 := Tryz.zeroValue0
  t3 := Tryz.underlying3
  a3 := Tryz.isAgg3
  z3 := Tryz.sizeOf3
  v3 := Tryz.zeroValue3
  t4 := Tryz.underlying4
  a4 := Tryz.isAgg4
  z4 := Tryz.sizeOf4
  v4 := Tryz.zeroValue4
  t9 := Tryz.underlying9
  a9 := Tryz.isAgg9
  z9 := Tryz.sizeOf9
  v9 := Tryz.zeroValue9
  t20 := Tryz.underlying20
  a20 := Tryz.isAgg20
  z20 := Tryz.sizeOf20
  v20 := Tryz.zeroValue20
  t31 := Tryz.underlying192
  a31 := Tryz.isAgg192
  z31 := Tryz.sizeOf192
  v31 := Tryz.zeroValue192
  t37 := Tryz.underlying24
  a37 := Tryz.isAgg24
  z37 := Tryz.sizeOf24
  v37 := Tryz.zeroValue24
  t70 := Tryz.underlying224
  a70 := Tryz.isAgg224
  z70 := Tryz.sizeOf224
  v70 := Tryz.zeroValue224
  t72 := Tryz.underlying226
  a72 := Tryz.isAgg226
  z72 := Tryz.sizeOf226
  v72 := Tryz.zeroValue226
  t75 := Tryz.underlying229
  a75 := Tryz.isAgg229
  z75 := Tryz.sizeOf229
  v75 := Tryz.zeroValue229
  t76 := Tryz.underlying230
  a76 := Tryz.isAgg230
  z76 := Tryz.sizeOf230
  v76 := Tryz.zeroValue230
  t127 := Tryz.underlying235
  a127 := Tryz.isAgg235
  z127 := Tryz.sizeOf235
  v127 := Tryz.zeroValue235
  t164 := Tryz.underlying248
  a164 := Tryz.isAgg248
  z164 := Tryz.sizeOf248
  v164 := Tryz.zeroValue248 }
theorem Tryz.Builder_Extra_156 : Builder.Extra Tryz.prog Tryz.lays156_ren := {
  sizeBuilder := by kernel_rfl
  liesBuilder := by kernel_rfl
  t5 := Tryz.underlying5
  a5 := Tryz.isAgg5
  z5 := Tryz.sizeOf5
  v5 := Tryz.zeroValue5
  infoByte := by kernel_rfl
  cellsByte := by kernel_rfl
  sizeByte := by kernel_rfl
  neB5 := by decide }
open Go.RowKit in
theorem Tryz.strings_Join_none (a : Option Addr) (c : Nat) (sep : ByteArray) (w : World) :
    Calls Tryz.prog 237 #[.slice a 0 c, .string sep] w fun e w' => e = .returned (.string ⟨#[]⟩) ∧ w' = w := Any.strings_Join_none Tryz.lays156 Tryz.Builder_Extra_156 a c sep w
open Go.RowKit in
theorem Tryz.strings_Join (bk o c : Nat) (xs : List ByteArray) (sep : ByteArray) (w : World) (hcells : ∀ (j : Nat) x, xs[j]? = some x → w.cell? ⟨bk, o + j, none⟩ = some (.string x)) (hbk : bk < w.heap.size) (hN : xs.length ≤ 140737488355328) (hcap : xs.length ≤ c) (hlen : (Lib.join (xs.map (·.data.toList)) sep.data.toList).length ≤ 140737488355328) :
    Calls Tryz.prog 237 #[.slice (some ⟨bk, o, none⟩) xs.length c, .string sep] w fun e w' => e = .returned (.string ⟨(Lib.join (xs.map (·.data.toList)) sep.data.toList).toArray⟩) ∧ Below w.heap.size w w' := Any.strings_Join Tryz.lays156 Tryz.Builder_Extra_156 bk o c xs sep w hcells hbk hN hcap hlen
def Tryz.laysM171_ren : Go.Shelf.Ren := ⟨fun | 171 => 235 | 243 => 244 | 246 => 256 | 283 => 265 | 284 => 266 | 285 => 267 | 286 => 268 | 129 => 273 | 317 => 272 | 318 => 274 | 319 => 275 | 320 => 276 | 337 => 277 | 338 => 278 | n => n, fun | 3 => 3 | 9 => 9 | 2 => 2 | 4 => 4 | 171 => 242 | 0 => 0 | 53 => 243 | 37 => 24 | 5 => 5 | 173 => 246 | 212 => 251 | 51 => 238 | 20 => 20 | 213 => 252 | 46 => 217 | 232 => 259 | 233 => 260 | n => n, fun | 17 => 1 | 18 => 4 | 19 => 5 | n => n⟩
theorem Tryz.laysM171 : Go.Proofs.LaysM.n171 Tryz.prog Tryz.laysM171_ren := {
  mixed := by kernel_rfl
  f129 := Tryz.func273.trans (congrArg some (by kernel_rfl))
  f171 := Tryz.func235.trans (congrArg some (by kernel_rfl))
  f243 := Tryz.func244.trans (congrArg some (by kernel_rfl))
  f246 := Tryz.func256.trans (congrArg some (by kernel_rfl))
  f283 := Tryz.func265.trans (congrArg some (by kernel_rfl))
  f284 := Tryz.func266.trans (congrArg some (by kernel_rfl))
  f285 := Tryz.func267.trans (congrArg some (by kernel_rfl))
  f286 := Tryz.func268.trans (congrArg some (by kernel_rfl))
  f317 := Tryz.func272.trans (congrArg some (by kernel_rfl))
  f318 := Tryz.func274.trans (congrArg some (by kernel_rfl))
  f319 := Tryz.func275.trans (congrArg some (by kernel_rfl))
  f320 := Tryz.func276.trans (congrArg some (by kernel_rfl))
  f337 := Tryz.func277.trans (congrArg some (by kernel_rfl))
  f338 := Tryz.func278.trans (congrArg some (by kernel_rfl))
  t0 := Tryz.underlying0
  a0 := Tryz.isAgg0
  z0 := Tryz.sizeOf0
  v0 := Tryz.zeroValue0
  t2 := Tryz.underlying2
  a2 := Tryz.isAgg2
  z2 := Tryz.sizeOf2
  v2 := Tryz.zeroValue2
  t3 := Tryz.underlying3
  a3 := Tryz.isAgg3
  z3 := Tryz.sizeOf3
  v3 := Tryz.zeroValue3
  t4 := Tryz.underlying4
  a4 := Tryz.isAgg4
  z4 := Tryz.sizeOf4
  v4 := Tryz.zeroValue4
  t5 := Tryz.underlying5
  a5 := Tryz.isAgg5
  z5 := Tryz.sizeOf5
  v5 := Tryz.zeroValue5
  t9 := Tryz.underlying9
  a9 := Tryz.isAgg9
  z9 := Tryz.sizeOf9
  v9 := Tryz.zeroValue9
  t20 := Tryz.underlying20
  a20 := Tryz.isAgg20
  z20 := Tryz.sizeOf20
  v20 := Tryz.zeroValue20
  t37 := Tryz.underlying24
  a37 := Tryz.isAgg24
  z37 := Tryz.sizeOf24
  v37 := Tryz.zeroValue24
  t46 := Tryz.underlying217
  a46 := Tryz.isAgg217
  z46 := Tryz.sizeOf217
  v46 := Tryz.zeroValue217
  t51 := Tryz.underlying238
  a51 := Tryz.isAgg238
  z51 := Tryz.sizeOf238
  v51 := Tryz.zeroValue238
  t53 := Tryz.underlying243
  a53 := Tryz.isAgg243
  z53 := Tryz.sizeOf243
  v53 := Tryz.zeroValue243
  t171 := Tryz.underlying242
  a171 := Tryz.isAgg242
  z171 := Tryz.sizeOf242
  v171 := Tryz.zeroValue242
  t173 := Tryz.underlying246
  a173 := Tryz.isAgg246
  z173 := Tryz.sizeOf246
  v173 := Tryz.zeroValue246
  t212 := Tryz.underlying251
  a212 := Tryz.isAgg251
  z212 := Tryz.sizeOf251
  v212 := Tryz.zeroValue251
  t213 := Tryz.underlying252
  a213 := Tryz.isAgg252
  z213 := Tryz.sizeOf252
  t232 := Tryz.underlying259
  a232 := Tryz.isAgg259
  z232 := Tryz.sizeOf259
  v232 := Tryz.zeroValue259
  t233 := Tryz.underlying260
  a233 := Tryz.isAgg260
  z233 := Tryz.sizeOf260
  v233 := Tryz.zeroValue260
  g17 := by kernel_rfl
  g18 := by kernel_rfl
  g19 := by kernel_rfl
  i0 := by kernel_rfl
  i2 := by kernel_rfl
  i3 := by kernel_rfl
  i4 := by kernel_rfl
  i5 := by kernel_rfl
  i9 := by kernel_rfl
  i20 := by kernel_rfl
  i37 := by kernel_rfl
  i46 := by kernel_rfl
  i51 := by kernel_rfl
  i53 := by kernel_rfl
  i171 := by kernel_rfl
  i173 := by kernel_rfl
  i212 := by kernel_rfl
  i232 := by kernel_rfl
  i233 := by kernel_rfl
  m17 := by kernel_rfl
  m18 := by kernel_rfl
  m19 := by kernel_rfl }
open Go.RowKit Go.Sort Go.Lib in
theorem Tryz.strconv_Itoa (n : Int) (h0 : -9223372036854775808 ≤ n) (h1 : n ≤ 9223372036854775807) (w : World) (htab : Lib.TabIs Tryz.prog w "internal/strconv.uint64pow10" .u64 Lib.pow10Tab) :
    Calls Tryz.prog 235 #[.int .i64 n] w fun e w' => e = .returned (.string ⟨(Lib.itoa n).toArray⟩) ∧ ∃ k os, w' = grow (w.drewN k) os := Any.strconv_Itoa Tryz.laysM171 n h0 h1 w htab
def Tryz.lays145_ren : Go.Shelf.Ren := ⟨fun | 145 => 194 | 220 => 227 | 219 => 241 | 217 => 251 | 225 => 252 | 224 => 253 | 267 => 254 | 266 => 262 | 314 => 263 | n => n, fun | 9 => 9 | 4 => 4 | 59 => 194 | 3 => 3 | 5 => 5 | 46 => 217 | 146 => 239 | 51 => 238 | n => n, fun | 1 => 0 | n => n⟩
theorem Tryz.lays145 : Go.Proofs.Lays.n145 Tryz.prog Tryz.lays145_ren := {
  mixed := by kernel_rfl
  f145 := Tryz.func194.trans (congrArg some (by kernel_rfl))
  f217 := Tryz.func251.trans (congrArg some (by kernel_rfl))
  f219 := Tryz.func241.trans (congrArg some (by kernel_rfl))
  f220 := Tryz.func227.trans (congrArg some (by kernel_rfl))
  f224 := Tryz.func253.trans (congrArg some (by kernel_rfl))
  f225 := Tryz.func252.trans (congrArg some (by kernel_rfl))
  f266 := Tryz.func262.trans (congrArg some (by kernel_rfl))
  f267 := Tryz.func254.trans (congrArg some (by kernel_rfl))
  f314 := Tryz.func263.trans (congrArg some (by kernel_rfl))
  t3 := Tryz.underlying3
  a3 := Tryz.isAgg3
  z3 := Tryz.sizeOf3
  v3 := Tryz.zeroValue3
  t4 := Tryz.underlying4
  a4 := Tryz.isAgg4
  z4 := Tryz.sizeOf4
  v4 := Tryz.zeroValue4
  t5 := Tryz.underlying5
  a5 := Tryz.isAgg5
  z5 := Tryz.sizeOf5
  v5 := Tryz.zeroValue5
  t9 := Tryz.underlying9
  a9 := Tryz.isAgg9
  z9 := Tryz.sizeOf9
  v9 := Tryz.zeroValue9
  t46 := Tryz.underlying217
  a46 := Tryz.isAgg217
  z46 := Tryz.sizeOf217
  v46 := Tryz.zeroValue217
  t51 := Tryz.underlying238
  a51 := Tryz.isAgg238
  z51 := Tryz.sizeOf238
  v51 := Tryz.zeroValue238
  t59 := Tryz.underlying194
  a59 := Tryz.isAgg194
  z59 := Tryz.sizeOf194
  v59 := Tryz.zeroValue194
  t146 := Tryz.underlying239
  a146 := Tryz.isAgg239
  z146 := Tryz.sizeOf239
  v146 := Tryz.zeroValue239
  g1 := by kernel_rfl }
open Go.RowKit Go.Lib in
theorem Tryz.strings_Cut (s sep : ByteArray) (m : Int) (w : World) (hs : s.size < 4294967281) (hm : w.cell? ⟨0, 0, none⟩ = some (.int .i64 m)) :
    Calls Tryz.prog 194 #[.string s, .string sep] w fun e w' => e = .returned (.tuple #[.string ⟨(Lib.cut s.data.toList sep.data.toList).1.toArray⟩, .string ⟨(Lib.cut s.data.toList sep.data.toList).2.1.toArray⟩, .bool (Lib.cut s.data.toList sep.data.toList).2.2]) ∧ ∃ n, w' = w.drewN n := Any.strings_Cut Tryz.lays145 s sep m w hs hm
def Tryz.laysM145_ren : Go.Shelf.Ren := ⟨fun | 145 => 194 | 220 => 227 | 219 => 241 | 217 => 251 | 225 => 252 | 224 => 253 | 267 => 254 | 266 => 262 | 314 => 263 | n => n, fun | 9 => 9 | 4 => 4 | 59 => 194 | 3 => 3 | 5 => 5 | 46 => 217 | 146 => 239 | 51 => 238 | n => n, fun | 1 => 0 | n => n⟩
theorem Tryz.laysM145 : Go.Proofs.LaysM.n145 Tryz.prog Tryz.laysM145_ren := {
  mixed := by kernel_rfl
  f145 := Tryz.func194.trans (congrArg some (by kernel_rfl))
  f217 := Tryz.func251.trans (congrArg some (by kernel_rfl))
  f219 := Tryz.func241.trans (congrArg some (by kernel_rfl))
  f220 := Tryz.func227.trans (congrArg some (by kernel_rfl))
  f224 := Tryz.func253.trans (congrArg some (by kernel_rfl))
  f225 := Tryz.func252.trans (congrArg some (by kernel_rfl))
  f266 := Tryz.func262.trans (congrArg some (by kernel_rfl))
  f267 := Tryz.func254.trans (congrArg some (by kernel_rfl))
  f314 := Tryz.func263.trans (congrArg some (by kernel_rfl))
  t3 := Tryz.underlying3
  a3 := Tryz.isAgg3
  z3 := Tryz.sizeOf3
  v3 := Tryz.zeroValue3
  t4 := Tryz.underlying4
  a4 := Tryz.isAgg4
  z4 := Tryz.sizeOf4
  v4 := Tryz.zeroValue4
  t5 := Tryz.underlying5
  a5 := Tryz.isAgg5
  z5 := Tryz.sizeOf5
  v5 := Tryz.zeroValue5
  t9 := Tryz.underlying9
  a9 := Tryz.isAgg9
  z9 := Tryz.sizeOf9
  v9 := Tryz.zeroValue9
  t46 := Tryz.underlying217
  a46 := Tryz.isAgg217
  z46 := Tryz.sizeOf217
  v46 := Tryz.zeroValue217
  t51 := Tryz.underlying238
  a51 := Tryz.isAgg238
  z51 := Tryz.sizeOf238
  v51 := Tryz.zeroValue238
  t59 := Tryz.underlying194
  a59 := Tryz.isAgg194
  z59 := Tryz.sizeOf194
  v59 := Tryz.zeroValue194
  t146 := Tryz.underlying239
  a146 := Tryz.isAgg239
  z146 := Tryz.sizeOf239
  v146 := Tryz.zeroValue239
  g1 := by kernel_rfl
  i3 := by kernel_rfl
  i4 := by kernel_rfl
  i5 := by kernel_rfl
  i9 := by kernel_rfl
  i46 := by kernel_rfl
  i51 := by kernel_rfl
  i59 := by kernel_rfl
  i146 := by kernel_rfl
  m1 := by kernel_rfl
  s1_3 := fun w h => Go.Proofs.cell_of_shapedOpen_int (zero := #[.int .i64 0]) (t := 3) h (of_decide_eq_true (by kernel_rfl)) (by kernel_rfl) rfl (by kernel_rfl) (by kernel_rfl) Tryz.underlying3 }
def Tryz.lays149_ren : Go.Shelf.Ren := ⟨fun | 149 => 166 | 222 => 218 | n => n, fun | 9 => 9 | 5 => 5 | 3 => 3 | 4 => 4 | n => n, fun | n => n⟩
theorem Tryz.lays149 : Go.Proofs.Lays.n149 Tryz.prog Tryz.lays149_ren := {
  mixed := by kernel_rfl
  f149 := Tryz.func166.trans (congrArg some (by kernel_rfl))
  f222 := Tryz.func218.trans (congrArg some (by kernel_rfl))
  t3 := Tryz.underlying3
  a3 := Tryz.isAgg3
  z3 := Tryz.sizeOf3
  v3 := Tryz.zeroValue3
  t4 := Tryz.underlying4
  a4 := Tryz.isAgg4
  z4 := Tryz.sizeOf4
  v4 := Tryz.zeroValue4
  t5 := Tryz.underlying5
  a5 := Tryz.isAgg5
  z5 := Tryz.sizeOf5
  v5 := Tryz.zeroValue5
  t9 := Tryz.underlying9
  a9 := Tryz.isAgg9
  z9 := Tryz.sizeOf9
  v9 := Tryz.zeroValue9 }
open Go.RowKit Go.Lib in
theorem Tryz.strings_LastIndexByte (s : ByteArray) (c : Int) (hs : s.size < 4611686018427387904) (w : World) :
    Calls Tryz.prog 166 #[.string s, .int .u8 c] w fun e w' => e = .returned (.int .i64 (Lib.lastIndexByte s c)) ∧ w' = w := Any.strings_LastIndexByte Tryz.lays149 s c hs w
def Tryz.lays206_ren : Go.Shelf.Ren := ⟨fun | 206 => 203 | n => n, fun | 9 => 9 | 4 => 4 | 3 => 3 | n => n, fun | n => n⟩
theorem Tryz.lays206 : Go.Proofs.Lays.n206 Tryz.prog Tryz.lays206_ren := {
  mixed := by kernel_rfl
  f206 := Tryz.func203.trans (congrArg some (by kernel_rfl))
  t3 := Tryz.underlying3
  a3 := Tryz.isAgg3
  z3 := Tryz.sizeOf3
  v3 := Tryz.zeroValue3
  t4 := Tryz.underlying4
  a4 := Tryz.isAgg4
  z4 := Tryz.sizeOf4
  v4 := Tryz.zeroValue4
  t9 := Tryz.underlying9
  a9 := Tryz.isAgg9
  z9 := Tryz.sizeOf9
  v9 := Tryz.zeroValue9 }
open Go.RowKit Go.Lib in
theorem Tryz.stringslite_HasPrefix (s p : ByteArray) (w : World) :
    Calls Tryz.prog 203 #[.string s, .string p] w fun e w' => e = .returned (.bool (Lib.hasPrefix s.data.toList p.data.toList)) ∧ w' = w := Any.stringslite_HasPrefix Tryz.lays206 s p w
def Tryz.lays99_ren : Go.Shelf.Ren := ⟨fun | 99 => 142 | 206 => 203 | n => n, fun | 9 => 9 | 4 => 4 | 3 => 3 | n => n, fun | n => n⟩
theorem Tryz.lays99 : Go.Proofs.Lays.n99 Tryz.prog Tryz.lays99_ren := {
  mixed := by kernel_rfl
  f99 := Tryz.func142.trans (congrArg some (by kernel_rfl))
  f206 := Tryz.func203.trans (congrArg some (by kernel_rfl))
  t3 := Tryz.underlying3
  a3 := Tryz.isAgg3
  z3 := Tryz.sizeOf3
  v3 := Tryz.zeroValue3
  t4 := Tryz.underlying4
  a4 := Tryz.isAgg4
  z4 := Tryz.sizeOf4
  v4 := Tryz.zeroValue4
  t9 := Tryz.underlying9
  a9 := Tryz.isAgg9
  z9 := Tryz.sizeOf9
  v9 := Tryz.zeroValue9 }
open Go.RowKit Go.Lib in
theorem Tryz.strings_HasPrefix (s p : ByteArray) (w : World) :
    Calls Tryz.prog 142 #[.string s, .string p] w fun e w' => e = .returned (.bool (Lib.hasPrefix s.data.toList p.data.toList)) ∧ w' = w := Any.strings_HasPrefix Tryz.lays99 s p w
def Tryz.lays146_ren : Go.Shelf.Ren := ⟨fun | 146 => 226 | 221 => 240 | 268 => 248 | 138 => 249 | 143 => 250 | 195 => 259 | 197 => 260 | 218 => 261 | 219 => 241 | 260 => 271 | 217 => 251 | 225 => 252 | 224 => 253 | 267 => 254 | 266 => 262 | 314 => 263 | n => n, fun | 9 => 9 | 31 => 192 | 3 => 3 | 4 => 4 | 0 => 0 | 105 => 236 | 21 => 21 | 5 => 5 | 46 => 217 | 119 => 254 | 139 => 257 | 138 => 256 | 146 => 239 | 51 => 238 | n => n, fun | 1 => 0 | 3 => 2 | 4 => 3 | n => n⟩
theorem Tryz.lays146 : Go.Proofs.Lays.n146 Tryz.prog Tryz.lays146_ren := {
  mixed := by kernel_rfl
  f138 := Tryz.func249.trans (congrArg some (by kernel_rfl))
  f143 := Tryz.func250.trans (congrArg some (by kernel_rfl))
  f146 := Tryz.func226.trans (congrArg some (by kernel_rfl))
  f195 := Tryz.func259.trans (congrArg some (by kernel_rfl))
  f197 := Tryz.func260.trans (congrArg some (by kernel_rfl))
  f217 := Tryz.func251.trans (congrArg some (by kernel_rfl))
  f218 := Tryz.func261.trans (congrArg some (by kernel_rfl))
  f219 := Tryz.func241.trans (congrArg some (by kernel_rfl))
  f221 := Tryz.func240.trans (congrArg some (by kernel_rfl))
  f224 := Tryz.func253.trans (congrArg some (by kernel_rfl))
  f225 := Tryz.func252.trans (congrArg some (by kernel_rfl))
  f260 := Tryz.func271.trans (congrArg some (by kernel_rfl))
  f266 := Tryz.func262.trans (congrArg some (by kernel_rfl))
  f267 := Tryz.func254.trans (congrArg some (by kernel_rfl))
  f268 := Tryz.func248.trans (congrArg some (by kernel_rfl))
  f314 := Tryz.func263.trans (congrArg some (by kernel_rfl))
  t0 := Tryz.underlying0
  a0 := Tryz.isAgg0
  z0 := Tryz.sizeOf0
  v0 := Tryz.zeroValue0
  t3 := Tryz.underlying3
  a3 := Tryz.isAgg3
  z3 := Tryz.sizeOf3
  v3 := Tryz.zeroValue3
  t4 := Tryz.underlying4
  a4 := Tryz.isAgg4
  z4 := Tryz.sizeOf4
  v4 := Tryz.zeroValue4
  t5 := Tryz.underlying5
  a5 := Tryz.isAgg5
  z5 := Tryz.sizeOf5
  v5 := Tryz.zeroValue5
  t9 := Tryz.underlying9
  a9 := Tryz.isAgg9
  z9 := Tryz.sizeOf9
  v9 := Tryz.zeroValue9
  t21 := Tryz.underlying21
  a21 := Tryz.isAgg21
  z21 := Tryz.sizeOf21
  v21 := Tryz.zeroValue21
  t31 := Tryz.underlying192
  a31 := Tryz.isAgg192
  z31 := Tryz.sizeOf192
  v31 := Tryz.zeroValue192
  t46 := Tryz.underlying217
  a46 := Tryz.isAgg217
  z46 := Tryz.sizeOf217
  v46 := Tryz.zeroValue217
  t51 := Tryz.underlying238
  a51 := Tryz.isAgg238
  z51 := Tryz.sizeOf238
  v51 := Tryz.zeroValue238
  t105 := Tryz.underlying236
  a105 := Tryz.isAgg236
  z105 := Tryz.sizeOf236
  v105 := Tryz.zeroValue236
  t119 := Tryz.underlying254
  a119 := Tryz.isAgg254
  z119 := Tryz.sizeOf254
  t138 := Tryz.underlying256
  a138 := Tryz.isAgg256
  z138 := Tryz.sizeOf256
  v138 := Tryz.zeroValue256
  t139 := Tryz.underlying257
  a139 := Tryz.isAgg257
  z139 := Tryz.sizeOf257
  v139 := Tryz.zeroValue257
  t146 := Tryz.underlying239
  a146 := Tryz.isAgg239
  z146 := Tryz.sizeOf239
  v146 := Tryz.zeroValue239
  g1 := by kernel_rfl
  g3 := by kernel_rfl
  g4 := by kernel_rfl }
open Go.RowKit Go.Lib in
theorem Tryz.strings_Split (s sep : ByteArray) (m : Int) (w : World) (hs : s.size < 4294967281) (hm : w.cell? ⟨0, 0, none⟩ = some (.int .i64 m)) (h1 : 1 ≤ sep.size) :
    Calls Tryz.prog 226 #[.string s, .string sep] w fun e w' =>
      e = .returned (.slice (some ⟨w.heap.size, 0, none⟩) (Lib.countB s sep + 1) (Lib.countB s sep + 1)) ∧ w' = w.alloc (.cells ((Lib.splitB sep 0 (Lib.countB s sep) s).map Value.string).toArray 9) := Any.strings_Split Tryz.lays146 (by kernel_rfl) s sep m w hs hm h1
def Tryz.laysPa45_ren : Go.Shelf.Ren := ⟨fun | 45 => 218 | n => n, fun | 9 => 9 | 5 => 5 | 3 => 3 | 4 => 4 | n => n, fun | n => n⟩
theorem Tryz.laysPa45 : Go.Proofs.Lays.p45 Tryz.prog Tryz.laysPa45_ren := {
  mixed := by kernel_rfl
  f45 := Tryz.func218.trans (congrArg some (by kernel_rfl))
  t3 := Tryz.underlying3
  a3 := Tryz.isAgg3
  z3 := Tryz.sizeOf3
  v3 := Tryz.zeroValue3
  t4 := Tryz.underlying4
  a4 := Tryz.isAgg4
  z4 := Tryz.sizeOf4
  v4 := Tryz.zeroValue4
  t5 := Tryz.underlying5
  a5 := Tryz.isAgg5
  z5 := Tryz.sizeOf5
  v5 := Tryz.zeroValue5
  t9 := Tryz.underlying9
  a9 := Tryz.isAgg9
  z9 := Tryz.sizeOf9
  v9 := Tryz.zeroValue9 }
open Go.RowKit Go.Lib in
theorem Tryz.bytealg_LastIndexByteString (s : ByteArray) (c : UInt8) (w : World) (hs : s.size ≤ 9223372036854775807) :
    Calls Tryz.prog 218 #[.string s, .int .u8 c.toNat] w fun e w' => e = .returned (.int .i64 (Pa.lastIndexByte s.data.toList c)) ∧ w' = w := Any.bytealg_LastIndexByteString Tryz.laysPa45 s c w hs
end Go.Proofs
