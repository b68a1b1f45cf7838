/-
  Contracts of the library at this program; first native calls.
-/
import Derived.Shelf.SlSortCmp.NoneTotal
import Derived.Ground.SlsfProg
import Derived.Shelf.SlGeneric
import Derived.Shelf.Strings.Builder1
import Derived.Shelf.Strings.Builder2
import Derived.Shelf.Strings.OnBuilder
import Derived.Shelf.Small.Bits
import Derived.Shelf.Small.Strs
import Derived.Shelf.Strings.BuilderF
import Derived.Shelf.Strings.BuilderK
import Derived.Shelf.Utf8.RuneCount
import Derived.Shelf.Strconv.Atoi
import Derived.Shelf.Strconv.Itoa0
import Derived.Shelf.Strconv.Itoa1
import Derived.Shelf.LaysM
import Derived.Shelf.Strconv.Itoa2
import Derived.Shelf.Strconv.Itoa3
import Derived.Shelf.Strconv.AtoiErrFast
import Derived.Shelf.Strings.Search1
import Derived.Shelf.Strings.Search2
import Derived.Shelf.Strings.Search3
import Derived.Shelf.Strings.Cut
import Derived.Shelf.Strings.Count
import Derived.Shelf.Strings.Shaped
import Derived.Shelf.Sort.Plain
import Derived.Shelf.Strings.Split
import Derived.Shelf.Strings.Replace
import Derived.Shelf.Strings.SplitShaped
import Derived.Shelf.Unicode.Decode
import Derived.Shelf.Strings.RuneCount
import Derived.Shelf.Strings.Explode
import Derived.Shelf.Unicode.DecodeSlow
import Derived.Shelf.Unicode.DecodeAny
import Derived.Shelf.Slices.Turned
import Derived.Shelf.Slices.Equal
import Derived.Ground.Names2Prog
import Derived.Shelf.Slices.Clone
import Derived.Shelf.Slices.CompactS
import Derived.Shelf.Slices.Cells
import Derived.Shelf.Slices.In.SortNone
import Derived.Ground.SlgnProg
import Derived.Shelf.SlicesE.Clone
import Derived.Test.YtcdogmjbnlmgeaaGreatDoorProg
import Derived.KernelRfl
import Derived.WalkKit
import Derived.Test.YtcdogmjbnlmgeaaGreatDoorVad
import Derived.Test.YtcdogmjbnlmgeaaGreatDoorVab
import Derived.Laws.Cover1
namespace Go.Proofs
open Go.Shelf
def Tryz.lays169_ren : Go.Shelf.Ren := ⟨fun | 169 => 325 | n => n, fun | 70 => 318 | 9 => 9 | 0 => 0 | 72 => 320 | 37 => 39 | 127 => 342 | 3 => 3 | 5 => 5 | n => n, fun | n => n⟩
theorem Tryz.lays169 : Go.Proofs.Lays.n169 Tryz.prog Tryz.lays169_ren := {
  mixed := by kernel_rfl
  f169 := Tryz.func325.trans (congrArg some (by kernel_rfl))
  t0 := Tryz.underlying0
  a0 := Tryz.isAgg0
  z0 := Tryz.sizeOf0
  v0 := Tryz.zeroValue0
  t3 := Tryz.underlying3
  a3 := Tryz.isAgg3
  z3 := Tryz.sizeOf3
  v3 := Tryz.zeroValue3
  t9 := Tryz.underlying9
  a9 := Tryz.isAgg9
  z9 := Tryz.sizeOf9
  v9 := Tryz.zeroValue9
  t37 := Tryz.underlying39
  a37 := Tryz.isAgg39
  z37 := Tryz.sizeOf39
  v37 := Tryz.zeroValue39
  t70 := Tryz.underlying318
  a70 := Tryz.isAgg318
  z70 := Tryz.sizeOf318
  v70 := Tryz.zeroValue318
  t72 := Tryz.underlying320
  a72 := Tryz.isAgg320
  z72 := Tryz.sizeOf320
  v72 := Tryz.zeroValue320
  t127 := Tryz.underlying342
  a127 := Tryz.isAgg342
  z127 := Tryz.sizeOf342
  v127 := Tryz.zeroValue342 }
theorem Tryz.Builder_Extra_169 : Builder.Extra Tryz.prog Tryz.lays169_ren := {
  sizeBuilder := by kernel_rfl
  liesBuilder := by kernel_rfl
  t5 := Tryz.underlying5
  a5 := Tryz.isAgg5
  z5 := Tryz.sizeOf5
  v5 := Tryz.zeroValue5
  infoByte := by kernel_rfl
  cellsByte := by kernel_rfl
  sizeByte := by kernel_rfl
  neB5 := by decide }
def Tryz.lays156_ren : Go.Shelf.Ren := ⟨fun | 156 => 304 | 165 => 327 | 166 => 324 | 169 => 325 | 240 => 358 | 241 => 359 | 276 => 374 | 277 => 375 | n => n, fun | 31 => 41 | 9 => 9 | 3 => 3 | 4 => 4 | 0 => 0 | 20 => 20 | 72 => 320 | 76 => 294 | 70 => 318 | 37 => 39 | 75 => 293 | 127 => 342 | 164 => 353 | 5 => 5 | 80 => 104 | n => n, fun | n => n⟩
theorem Tryz.lays156 : Go.Proofs.Lays.n156 Tryz.prog Tryz.lays156_ren := {
  mixed := by kernel_rfl
  f156 := Tryz.func304.trans (congrArg some (by kernel_rfl))
  f165 := Tryz.func327.trans (congrArg some (by kernel_rfl))
  f166 := Tryz.func324.trans (congrArg some (by kernel_rfl))
  f169 := Tryz.func325.trans (congrArg some (by kernel_rfl))
  f240 := Tryz.func358.trans (congrArg some (by kernel_rfl))
  f241 := Tryz.func359.trans (congrArg some (by kernel_rfl))
  f276 := Tryz.func374.trans (congrArg some (by kernel_rfl))
  f277 := Tryz.func375.trans (congrArg some (by kernel_rfl))
  t0 := Tryz.underlying0
  a0 := Tryz.isAgg0
  z0 := Tryz.sizeOf0
  v0 := Tryz.zeroValue0
  t3 := Tryz.underlying3
  a3 := Tryz.isAgg3
  z3 := Tryz.sizeOf3
  v3 := Tryz.zeroValue3
  t4 := Tryz.underlying4
  a4 := Tryz.isAgg4
  z4 := Tryz.sizeOf4
  v4 := Tryz.zeroValue4
  t9 := Tryz.underlying9
  a9 := Tryz.isAgg9
  z9 := Tryz.sizeOf9
  v9 := Tryz.zeroValue9
  t20 := Tryz.underlying20
  a20 := Tryz.isAgg20
  z20 := Tryz.sizeOf20
  v20 := Tryz.zeroValue20
  t31 := Tryz.underlying41
  a31 := Tryz.isAgg41
  z31 := Tryz.sizeOf41
  v31 := Tryz.zeroValue41
  t37 := Tryz.underlying39
  a37 := Tryz.isAgg39
  z37 := Tryz.sizeOf39
  v37 := Tryz.zeroValue39
  t70 := Tryz.underlying318
  a70 := Tryz.isAgg318
  z70 := Tryz.sizeOf318
  v70 := Tryz.zeroValue318
  t72 := Tryz.underlying320
  a72 := Tryz.isAgg320
  z72 := Tryz.sizeOf320
  v72 := Tryz.zeroValue320
  t75 := Tryz.underlying293
  a75 := Tryz.isAgg293
  z75 := Tryz.sizeOf293
  v75 := Tryz.zeroValue293
  t76 := Tryz.underlying294
  a76 := Tryz.isAgg294
  z76 := Tryz.sizeOf294
  v76 := Tryz.zeroValue294
  t127 := Tryz.underlying342
  a127 := Tryz.isAgg342
  z127 := Tryz.sizeOf342
  v127 := Tryz.zeroValue342
  t164 := Tryz.underlying353
  a164 := Tryz.isAgg353
  z164 := Tryz.sizeOf353
  v164 := Tryz.zeroValue353 }
theorem Tryz.Builder_Extra_156 : Builder.Extra Tryz.prog Tryz.lays156_ren := {
  sizeBuilder := by kernel_rfl
  liesBuilder := by kernel_rfl
  t5 := Tryz.underlying5
  a5 := Tryz.isAgg5
  z5 := Tryz.sizeOf5
  v5 := Tryz.zeroValue5
  infoByte := by kernel_rfl
  cellsByte := by kernel_rfl
  sizeByte := by kernel_rfl
  neB5 := by decide }
open Go.RowKit in
theorem Tryz.strings_Join_none (a : Option Addr) (c : Nat) (sep : ByteArray) (w : World) :
    Calls Tryz.prog 304 #[.slice a 0 c, .string sep] w fun e w' => e = .returned (.string ⟨#[]⟩) ∧ w' = w := Any.strings_Join_none Tryz.lays156 Tryz.Builder_Extra_156 a c sep w
open Go.RowKit in
theorem Tryz.strings_Join (bk o c : Nat) (xs : List ByteArray) (sep : ByteArray) (w : World) (hcells : ∀ (j : Nat) x, xs[j]? = some x → w.cell? ⟨bk, o + j, none⟩ = some (.string x)) (hbk : bk < w.heap.size) (hN : xs.length ≤ 140737488355328) (hcap : xs.length ≤ c) (hlen : (Lib.join (xs.map (·.data.toList)) sep.data.toList).length ≤ 140737488355328) :
    Calls Tryz.prog 304 #[.slice (some ⟨bk, o, none⟩) xs.length c, .string sep] w fun e w' => e = .returned (.string ⟨(Lib.join (xs.map (·.data.toList)) sep.data.toList).toArray⟩) ∧ Below w.heap.size w w' := Any.strings_Join Tryz.lays156 Tryz.Builder_Extra_156 bk o c xs sep w hcells hbk hN hcap hlen
open Go.RowKit in
theorem Tryz.Builder_String_any_k (B b : Nat) (l : List UInt8) (w : World) (h : Lib.IsBuilderF 320 5 B b (Lib.byteCells l) w) (hBw : B ≤ w.heap.size) :
    Calls Tryz.prog 325 #[.pointer (some ⟨b, 0, none⟩)] w fun e w' => e = .returned (.string ⟨l.toArray⟩) ∧ (Lib.IsBuilderF 320 5 B b (Lib.byteCells l) w' ∧ Below B w w' ∧ Lib.OthersKept 5 (some b) w w') := Any.Builder_String_any_k Tryz.lays169 Tryz.Builder_Extra_169 B b l w h hBw
def Tryz.laysM171_ren : Go.Shelf.Ren := ⟨fun | 171 => 74 | 243 => 128 | 246 => 186 | 283 => 231 | 284 => 232 | 285 => 233 | 286 => 234 | 129 => 177 | 317 => 268 | 318 => 269 | 319 => 270 | 320 => 271 | 337 => 297 | 338 => 298 | n => n, fun | 3 => 3 | 9 => 9 | 2 => 2 | 4 => 4 | 171 => 237 | 0 => 0 | 53 => 199 | 37 => 39 | 5 => 5 | 173 => 239 | 212 => 273 | 51 => 197 | 20 => 20 | 213 => 274 | 46 => 147 | 232 => 315 | 233 => 316 | n => n, fun | 17 => 1 | 18 => 2 | 19 => 3 | n => n⟩
theorem Tryz.laysM171 : Go.Proofs.LaysM.n171 Tryz.prog Tryz.laysM171_ren := {
  mixed := by kernel_rfl
  f129 := Tryz.func177.trans (congrArg some (by kernel_rfl))
  f171 := Tryz.func74.trans (congrArg some (by kernel_rfl))
  f243 := Tryz.func128.trans (congrArg some (by kernel_rfl))
  f246 := Tryz.func186.trans (congrArg some (by kernel_rfl))
  f283 := Tryz.func231.trans (congrArg some (by kernel_rfl))
  f284 := Tryz.func232.trans (congrArg some (by kernel_rfl))
  f285 := Tryz.func233.trans (congrArg some (by kernel_rfl))
  f286 := Tryz.func234.trans (congrArg some (by kernel_rfl))
  f317 := Tryz.func268.trans (congrArg some (by kernel_rfl))
  f318 := Tryz.func269.trans (congrArg some (by kernel_rfl))
  f319 := Tryz.func270.trans (congrArg some (by kernel_rfl))
  f320 := Tryz.func271.trans (congrArg some (by kernel_rfl))
  f337 := Tryz.func297.trans (congrArg some (by kernel_rfl))
  f338 := Tryz.func298.trans (congrArg some (by kernel_rfl))
  t0 := Tryz.underlying0
  a0 := Tryz.isAgg0
  z0 := Tryz.sizeOf0
  v0 := Tryz.zeroValue0
  t2 := Tryz.underlying2
  a2 := Tryz.isAgg2
  z2 := Tryz.sizeOf2
  v2 := Tryz.zeroValue2
  t3 := Tryz.underlying3
  a3 := Tryz.isAgg3
  z3 := Tryz.sizeOf3
  v3 := Tryz.zeroValue3
  t4 := Tryz.underlying4
  a4 := Tryz.isAgg4
  z4 := Tryz.sizeOf4
  v4 := Tryz.zeroValue4
  t5 := Tryz.underlying5
  a5 := Tryz.isAgg5
  z5 := Tryz.sizeOf5
  v5 := Tryz.zeroValue5
  t9 := Tryz.underlying9
  a9 := Tryz.isAgg9
  z9 := Tryz.sizeOf9
  v9 := Tryz.zeroValue9
  t20 := Tryz.underlying20
  a20 := Tryz.isAgg20
  z20 := Tryz.sizeOf20
  v20 := Tryz.zeroValue20
  t37 := Tryz.underlying39
  a37 := Tryz.isAgg39
  z37 := Tryz.sizeOf39
  v37 := Tryz.zeroValue39
  t46 := Tryz.underlying147
  a46 := Tryz.isAgg147
  z46 := Tryz.sizeOf147
  v46 := Tryz.zeroValue147
  t51 := Tryz.underlying197
  a51 := Tryz.isAgg197
  z51 := Tryz.sizeOf197
  v51 := Tryz.zeroValue197
  t53 := Tryz.underlying199
  a53 := Tryz.isAgg199
  z53 := Tryz.sizeOf199
  v53 := Tryz.zeroValue199
  t171 := Tryz.underlying237
  a171 := Tryz.isAgg237
  z171 := Tryz.sizeOf237
  v171 := Tryz.zeroValue237
  t173 := Tryz.underlying239
  a173 := Tryz.isAgg239
  z173 := Tryz.sizeOf239
  v173 := Tryz.zeroValue239
  t212 := Tryz.underlying273
  a212 := Tryz.isAgg273
  z212 := Tryz.sizeOf273
  v212 := Tryz.zeroValue273
  t213 := Tryz.underlying274
  a213 := Tryz.isAgg274
  z213 := Tryz.sizeOf274
  t232 := Tryz.underlying315
  a232 := Tryz.isAgg315
  z232 := Tryz.sizeOf315
  v232 := Tryz.zeroValue315
  t233 := Tryz.underlying316
  a233 := Tryz.isAgg316
  z233 := Tryz.sizeOf316
  v233 := Tryz.zeroValue316
  g17 := by kernel_rfl
  g18 := by kernel_rfl
  g19 := by kernel_rfl
  i0 := by kernel_rfl
  i2 := by kernel_rfl
  i3 := by kernel_rfl
  i4 := by kernel_rfl
  i5 := by kernel_rfl
  i9 := by kernel_rfl
  i20 := by kernel_rfl
  i37 := by kernel_rfl
  i46 := by kernel_rfl
  i51 := by kernel_rfl
  i53 := by kernel_rfl
  i171 := by kernel_rfl
  i173 := by kernel_rfl
  i212 := by kernel_rfl
  i232 := by kernel_rfl
  i233 := by kernel_rfl
  m17 := by kernel_rfl
  m18 := by kernel_rfl
  m19 := by kernel_rfl }
open Go.RowKit Go.Sort Go.Lib in
theorem Tryz.strconv_Itoa (n : Int) (h0 : -9223372036854775808 ≤ n) (h1 : n ≤ 9223372036854775807) (w : World) (htab : Lib.TabIs Tryz.prog w "internal/strconv.uint64pow10" .u64 Lib.pow10Tab) :
    Calls Tryz.prog 74 #[.int .i64 n] w fun e w' => e = .returned (.string ⟨(Lib.itoa n).toArray⟩) ∧ ∃ k os, w' = grow (w.drewN k) os := Any.strconv_Itoa Tryz.laysM171 n h0 h1 w htab
def Tryz.lays217_ren : Go.Shelf.Ren := ⟨fun | 217 => 181 | 266 => 225 | n => n, fun | 9 => 9 | 5 => 5 | 3 => 3 | n => n, fun | n => n⟩
theorem Tryz.lays217 : Go.Proofs.Lays.n217 Tryz.prog Tryz.lays217_ren := {
  mixed := by kernel_rfl
  f217 := Tryz.func181.trans (congrArg some (by kernel_rfl))
  f266 := Tryz.func225.trans (congrArg some (by kernel_rfl))
  t3 := Tryz.underlying3
  a3 := Tryz.isAgg3
  z3 := Tryz.sizeOf3
  v3 := Tryz.zeroValue3
  t5 := Tryz.underlying5
  a5 := Tryz.isAgg5
  z5 := Tryz.sizeOf5
  v5 := Tryz.zeroValue5
  t9 := Tryz.underlying9
  a9 := Tryz.isAgg9
  z9 := Tryz.sizeOf9
  v9 := Tryz.zeroValue9 }
open Go.RowKit Go.Lib in
theorem Tryz.stringslite_IndexByte (s : ByteArray) (c : Int) (w : World) :
    Calls Tryz.prog 181 #[.string s, .int .u8 c] w fun e w' => e = .returned (.int .i64 (Lib.indexByte s.data.toList c.toNat.toUInt8)) ∧ w' = w := Any.stringslite_IndexByte Tryz.lays217 s c w
def Tryz.lays219_ren : Go.Shelf.Ren := ⟨fun | 219 => 194 | 217 => 181 | 225 => 243 | 224 => 244 | 267 => 245 | 266 => 225 | 314 => 281 | n => n, fun | 9 => 9 | 3 => 3 | 4 => 4 | 5 => 5 | 46 => 147 | 146 => 282 | 51 => 197 | n => n, fun | 1 => 0 | n => n⟩
theorem Tryz.lays219 : Go.Proofs.Lays.n219 Tryz.prog Tryz.lays219_ren := {
  mixed := by kernel_rfl
  f217 := Tryz.func181.trans (congrArg some (by kernel_rfl))
  f219 := Tryz.func194.trans (congrArg some (by kernel_rfl))
  f224 := Tryz.func244.trans (congrArg some (by kernel_rfl))
  f225 := Tryz.func243.trans (congrArg some (by kernel_rfl))
  f266 := Tryz.func225.trans (congrArg some (by kernel_rfl))
  f267 := Tryz.func245.trans (congrArg some (by kernel_rfl))
  f314 := Tryz.func281.trans (congrArg some (by kernel_rfl))
  t3 := Tryz.underlying3
  a3 := Tryz.isAgg3
  z3 := Tryz.sizeOf3
  v3 := Tryz.zeroValue3
  t4 := Tryz.underlying4
  a4 := Tryz.isAgg4
  z4 := Tryz.sizeOf4
  v4 := Tryz.zeroValue4
  t5 := Tryz.underlying5
  a5 := Tryz.isAgg5
  z5 := Tryz.sizeOf5
  v5 := Tryz.zeroValue5
  t9 := Tryz.underlying9
  a9 := Tryz.isAgg9
  z9 := Tryz.sizeOf9
  v9 := Tryz.zeroValue9
  t46 := Tryz.underlying147
  a46 := Tryz.isAgg147
  z46 := Tryz.sizeOf147
  v46 := Tryz.zeroValue147
  t51 := Tryz.underlying197
  a51 := Tryz.isAgg197
  z51 := Tryz.sizeOf197
  v51 := Tryz.zeroValue197
  t146 := Tryz.underlying282
  a146 := Tryz.isAgg282
  z146 := Tryz.sizeOf282
  v146 := Tryz.zeroValue282
  g1 := by kernel_rfl }
open Go.RowKit Go.Lib in
theorem Tryz.stringslite_Index (s sub : ByteArray) (m : Int) (w : World) (hs : s.size < 4294967281) (hm : w.cell? ⟨0, 0, none⟩ = some (.int .i64 m)) :
    Calls Tryz.prog 194 #[.string s, .string sub] w fun e w' => e = .returned (.int .i64 (Lib.index s.data.toList sub.data.toList)) ∧ w' = w := Any.stringslite_Index Tryz.lays219 s sub m w hs hm
def Tryz.lays138_ren : Go.Shelf.Ren := ⟨fun | 138 => 318 | 195 => 350 | 218 => 352 | 143 => 147 | 219 => 194 | 217 => 181 | 225 => 243 | 224 => 244 | 267 => 245 | 266 => 225 | 314 => 281 | n => n, fun | 9 => 9 | 3 => 3 | 4 => 4 | 5 => 5 | 0 => 0 | 46 => 147 | 146 => 282 | 51 => 197 | n => n, fun | 1 => 0 | n => n⟩
theorem Tryz.lays138 : Go.Proofs.Lays.n138 Tryz.prog Tryz.lays138_ren := {
  mixed := by kernel_rfl
  f138 := Tryz.func318.trans (congrArg some (by kernel_rfl))
  f143 := Tryz.func147.trans (congrArg some (by kernel_rfl))
  f195 := Tryz.func350.trans (congrArg some (by kernel_rfl))
  f217 := Tryz.func181.trans (congrArg some (by kernel_rfl))
  f218 := Tryz.func352.trans (congrArg some (by kernel_rfl))
  f219 := Tryz.func194.trans (congrArg some (by kernel_rfl))
  f224 := Tryz.func244.trans (congrArg some (by kernel_rfl))
  f225 := Tryz.func243.trans (congrArg some (by kernel_rfl))
  f266 := Tryz.func225.trans (congrArg some (by kernel_rfl))
  f267 := Tryz.func245.trans (congrArg some (by kernel_rfl))
  f314 := Tryz.func281.trans (congrArg some (by kernel_rfl))
  t0 := Tryz.underlying0
  a0 := Tryz.isAgg0
  z0 := Tryz.sizeOf0
  v0 := Tryz.zeroValue0
  t3 := Tryz.underlying3
  a3 := Tryz.isAgg3
  z3 := Tryz.sizeOf3
  v3 := Tryz.zeroValue3
  t4 := Tryz.underlying4
  a4 := Tryz.isAgg4
  z4 := Tryz.sizeOf4
  v4 := Tryz.zeroValue4
  t5 := Tryz.underlying5
  a5 := Tryz.isAgg5
  z5 := Tryz.sizeOf5
  v5 := Tryz.zeroValue5
  t9 := Tryz.underlying9
  a9 := Tryz.isAgg9
  z9 := Tryz.sizeOf9
  v9 := Tryz.zeroValue9
  t46 := Tryz.underlying147
  a46 := Tryz.isAgg147
  z46 := Tryz.sizeOf147
  v46 := Tryz.zeroValue147
  t51 := Tryz.underlying197
  a51 := Tryz.isAgg197
  z51 := Tryz.sizeOf197
  v51 := Tryz.zeroValue197
  t146 := Tryz.underlying282
  a146 := Tryz.isAgg282
  z146 := Tryz.sizeOf282
  v146 := Tryz.zeroValue282
  g1 := by kernel_rfl }
def Tryz.lays190_ren : Go.Shelf.Ren := ⟨fun | 190 => 57 | 125 => 114 | 258 => 113 | 128 => 176 | 129 => 177 | 302 => 167 | 303 => 168 | 304 => 169 | 305 => 170 | 306 => 171 | 307 => 172 | 308 => 173 | 309 => 174 | 310 => 175 | 333 => 215 | 329 => 216 | 330 => 217 | 334 => 218 | 335 => 219 | 336 => 220 | 344 => 258 | n => n, fun | 31 => 41 | 9 => 9 | 3 => 3 | 46 => 147 | 0 => 0 | 51 => 197 | 53 => 199 | 4 => 4 | 183 => 191 | 182 => 190 | 131 => 171 | 5 => 5 | 218 => 230 | 222 => 234 | 228 => 265 | 229 => 266 | n => n, fun | n => n⟩
theorem Tryz.lays190 : Go.Proofs.Lays.n190 Tryz.prog Tryz.lays190_ren := {
  mixed := by kernel_rfl
  f125 := Tryz.func114.trans (congrArg some (by kernel_rfl))
  f128 := Tryz.func176.trans (congrArg some (by kernel_rfl))
  f129 := Tryz.func177.trans (congrArg some (by kernel_rfl))
  f190 := Tryz.func57.trans (congrArg some (by kernel_rfl))
  f258 := Tryz.func113.trans (congrArg some (by kernel_rfl))
  f302 := Tryz.func167.trans (congrArg some (by kernel_rfl))
  f303 := Tryz.func168.trans (congrArg some (by kernel_rfl))
  f304 := Tryz.func169.trans (congrArg some (by kernel_rfl))
  f305 := Tryz.func170.trans (congrArg some (by kernel_rfl))
  f306 := Tryz.func171.trans (congrArg some (by kernel_rfl))
  f307 := Tryz.func172.trans (congrArg some (by kernel_rfl))
  f308 := Tryz.func173.trans (congrArg some (by kernel_rfl))
  f309 := Tryz.func174.trans (congrArg some (by kernel_rfl))
  f310 := Tryz.func175.trans (congrArg some (by kernel_rfl))
  f329 := Tryz.func216.trans (congrArg some (by kernel_rfl))
  f330 := Tryz.func217.trans (congrArg some (by kernel_rfl))
  f333 := Tryz.func215.trans (congrArg some (by kernel_rfl))
  f334 := Tryz.func218.trans (congrArg some (by kernel_rfl))
  f335 := Tryz.func219.trans (congrArg some (by kernel_rfl))
  f336 := Tryz.func220.trans (congrArg some (by kernel_rfl))
  f344 := Tryz.func258.trans (congrArg some (by kernel_rfl))
  t0 := Tryz.underlying0
  a0 := Tryz.isAgg0
  z0 := Tryz.sizeOf0
  v0 := Tryz.zeroValue0
  t3 := Tryz.underlying3
  a3 := Tryz.isAgg3
  z3 := Tryz.sizeOf3
  v3 := Tryz.zeroValue3
  t4 := Tryz.underlying4
  a4 := Tryz.isAgg4
  z4 := Tryz.sizeOf4
  v4 := Tryz.zeroValue4
  t5 := Tryz.underlying5
  a5 := Tryz.isAgg5
  z5 := Tryz.sizeOf5
  v5 := Tryz.zeroValue5
  t9 := Tryz.underlying9
  a9 := Tryz.isAgg9
  z9 := Tryz.sizeOf9
  v9 := Tryz.zeroValue9
  t31 := Tryz.underlying41
  a31 := Tryz.isAgg41
  z31 := Tryz.sizeOf41
  v31 := Tryz.zeroValue41
  t46 := Tryz.underlying147
  a46 := Tryz.isAgg147
  z46 := Tryz.sizeOf147
  v46 := Tryz.zeroValue147
  t51 := Tryz.underlying197
  a51 := Tryz.isAgg197
  z51 := Tryz.sizeOf197
  v51 := Tryz.zeroValue197
  t53 := Tryz.underlying199
  a53 := Tryz.isAgg199
  z53 := Tryz.sizeOf199
  v53 := Tryz.zeroValue199
  t131 := Tryz.underlying171
  a131 := Tryz.isAgg171
  z131 := Tryz.sizeOf171
  v131 := Tryz.zeroValue171
  t182 := Tryz.underlying190
  a182 := Tryz.isAgg190
  z182 := Tryz.sizeOf190
  v182 := Tryz.zeroValue190
  t183 := Tryz.underlying191
  a183 := Tryz.isAgg191
  z183 := Tryz.sizeOf191
  v183 := Tryz.zeroValue191
  t218 := Tryz.underlying230
  a218 := Tryz.isAgg230
  z218 := Tryz.sizeOf230
  v218 := Tryz.zeroValue230
  t222 := Tryz.underlying234
  a222 := Tryz.isAgg234
  z222 := Tryz.sizeOf234
  v222 := Tryz.zeroValue234
  t228 := Tryz.underlying265
  a228 := Tryz.isAgg265
  z228 := Tryz.sizeOf265
  v228 := Tryz.zeroValue265
  t229 := Tryz.underlying266
  a229 := Tryz.isAgg266
  z229 := Tryz.sizeOf266
  v229 := Tryz.zeroValue266 }
open Go.Sort Go.RowKit in
theorem Tryz.slices_Sort_string (blk off cap : Nat) (ss : List (List UInt8)) (w : World) (hH : Holds encStr w blk off ss.toArray) (hblk : blk < w.heap.size) (hsz : ss.length < 4611686018427387904) :
    Calls Tryz.prog 57 #[.slice (some ⟨blk, off, none⟩) ss.length cap] w fun e w' =>
      e = .returned (.tuple #[]) ∧ ∃ n os, w' = grow (putRow encStr (Sort.ahead w n) blk off (ss.mergeSort fun x y => decide (x ≤ y)).toArray) os := Any.slices_Sort_string Tryz.lays190 blk off cap ss w hH hblk hsz
open Go.RowKit Go.Lib in
theorem Tryz.strings_Count_any (s sep : ByteArray) (m : Int) (w : World) (hs : s.size < 4294967281) (hm : w.cell? ⟨0, 0, none⟩ = some (.int .i64 m)) (h1 : 1 ≤ sep.size) :
    Calls Tryz.prog 318 #[.string s, .string sep] w fun e w' => e = .returned (.int .i64 (Lib.countB s sep)) ∧ w' = w := Any.strings_Count_any Tryz.lays138 s sep m w hs hm h1
def Tryz.lays146_ren : Go.Shelf.Ren := ⟨fun | 146 => 255 | 221 => 293 | 268 => 317 | 138 => 318 | 143 => 147 | 195 => 350 | 197 => 351 | 218 => 352 | 219 => 194 | 260 => 370 | 217 => 181 | 225 => 243 | 224 => 244 | 267 => 245 | 266 => 225 | 314 => 281 | n => n, fun | 9 => 9 | 31 => 41 | 3 => 3 | 4 => 4 | 0 => 0 | 105 => 334 | 21 => 21 | 5 => 5 | 46 => 147 | 119 => 356 | 139 => 359 | 138 => 358 | 146 => 282 | 51 => 197 | n => n, fun | 1 => 0 | 3 => 6 | 4 => 7 | n => n⟩
theorem Tryz.lays146 : Go.Proofs.Lays.n146 Tryz.prog Tryz.lays146_ren := {
  mixed := by kernel_rfl
  f138 := Tryz.func318.trans (congrArg some (by kernel_rfl))
  f143 := Tryz.func147.trans (congrArg some (by kernel_rfl))
  f146 := Tryz.func255.trans (congrArg some (by kernel_rfl))
  f195 := Tryz.func350.trans (congrArg some (by kernel_rfl))
  f197 := Tryz.func351.trans (congrArg some (by kernel_rfl))
  f217 := Tryz.func181.trans (congrArg some (by kernel_rfl))
  f218 := Tryz.func352.trans (congrArg some (by kernel_rfl))
  f219 := Tryz.func194.trans (congrArg some (by kernel_rfl))
  f221 := Tryz.func293.trans (congrArg some (by kernel_rfl))
  f224 := Tryz.func244.trans (congrArg some (by kernel_rfl))
  f225 := Tryz.func243.trans (congrArg some (by kernel_rfl))
  f260 := Tryz.func370.trans (congrArg some (by kernel_rfl))
  f266 := Tryz.func225.trans (congrArg some (by kernel_rfl))
  f267 := Tryz.func245.trans (congrArg some (by kernel_rfl))
  f268 := Tryz.func317.trans (congrArg some (by kernel_rfl))
  f314 := Tryz.func281.trans (congrArg some (by kernel_rfl))
  t0 := Tryz.underlying0
  a0 := Tryz.isAgg0
  z0 := Tryz.sizeOf0
  v0 := Tryz.zeroValue0
  t3 := Tryz.underlying3
  a3 := Tryz.isAgg3
  z3 := Tryz.sizeOf3
  v3 := Tryz.zeroValue3
  t4 := Tryz.underlying4
  a4 := Tryz.isAgg4
  z4 := Tryz.sizeOf4
  v4 := Tryz.zeroValue4
  t5 := Tryz.underlying5
  a5 := Tryz.isAgg5
  z5 := Tryz.sizeOf5
  v5 := Tryz.zeroValue5
  t9 := Tryz.underlying9
  a9 := Tryz.isAgg9
  z9 := Tryz.sizeOf9
  v9 := Tryz.zeroValue9
  t21 := Tryz.underlying21
  a21 := Tryz.isAgg21
  z21 := Tryz.sizeOf21
  v21 := Tryz.zeroValue21
  t31 := Tryz.underlying41
  a31 := Tryz.isAgg41
  z31 := Tryz.sizeOf41
  v31 := Tryz.zeroValue41
  t46 := Tryz.underlying147
  a46 := Tryz.isAgg147
  z46 := Tryz.sizeOf147
  v46 := Tryz.zeroValue147
  t51 := Tryz.underlying197
  a51 := Tryz.isAgg197
  z51 := Tryz.sizeOf197
  v51 := Tryz.zeroValue197
  t105 := Tryz.underlying334
  a105 := Tryz.isAgg334
  z105 := Tryz.sizeOf334
  v105 := Tryz.zeroValue334
  t119 := Tryz.underlying356
  a119 := Tryz.isAgg356
  z119 := Tryz.sizeOf356
  t138 := Tryz.underlying358
  a138 := Tryz.isAgg358
  z138 := Tryz.sizeOf358
  v138 := Tryz.zeroValue358
  t139 := Tryz.underlying359
  a139 := Tryz.isAgg359
  z139 := Tryz.sizeOf359
  v139 := Tryz.zeroValue359
  t146 := Tryz.underlying282
  a146 := Tryz.isAgg282
  z146 := Tryz.sizeOf282
  v146 := Tryz.zeroValue282
  g1 := by kernel_rfl
  g3 := by kernel_rfl
  g4 := by kernel_rfl }
open Go.RowKit Go.Lib in
theorem Tryz.strings_Split (s sep : ByteArray) (m : Int) (w : World) (hs : s.size < 4294967281) (hm : w.cell? ⟨0, 0, none⟩ = some (.int .i64 m)) (h1 : 1 ≤ sep.size) :
    Calls Tryz.prog 255 #[.string s, .string sep] w fun e w' =>
      e = .returned (.slice (some ⟨w.heap.size, 0, none⟩) (Lib.countB s sep + 1) (Lib.countB s sep + 1)) ∧ w' = w.alloc (.cells ((Lib.splitB sep 0 (Lib.countB s sep) s).map Value.string).toArray 9) := Any.strings_Split Tryz.lays146 (by kernel_rfl) s sep m w hs hm h1
def Tryz.lays154_ren : Go.Shelf.Ren := ⟨fun | 154 => 328 | 138 => 318 | 165 => 327 | 143 => 147 | 166 => 324 | 197 => 351 | 169 => 325 | 195 => 350 | 218 => 352 | 240 => 358 | 241 => 359 | 219 => 194 | 260 => 370 | 276 => 374 | 277 => 375 | 217 => 181 | 225 => 243 | 224 => 244 | 267 => 245 | 266 => 225 | 314 => 281 | n => n, fun | 9 => 9 | 3 => 3 | 4 => 4 | 72 => 320 | 0 => 0 | 76 => 294 | 105 => 334 | 21 => 21 | 5 => 5 | 70 => 318 | 20 => 20 | 37 => 39 | 75 => 293 | 127 => 342 | 164 => 353 | 46 => 147 | 119 => 356 | 139 => 359 | 138 => 358 | 146 => 282 | 51 => 197 | 80 => 104 | n => n, fun | 1 => 0 | 3 => 6 | 4 => 7 | n => n⟩
theorem Tryz.lays154 : Go.Proofs.Lays.n154 Tryz.prog Tryz.lays154_ren := {
  mixed := by kernel_rfl
  f138 := Tryz.func318.trans (congrArg some (by kernel_rfl))
  f143 := Tryz.func147.trans (congrArg some (by kernel_rfl))
  f154 := Tryz.func328.trans (congrArg some (by kernel_rfl))
  f165 := Tryz.func327.trans (congrArg some (by kernel_rfl))
  f166 := Tryz.func324.trans (congrArg some (by kernel_rfl))
  f169 := Tryz.func325.trans (congrArg some (by kernel_rfl))
  f195 := Tryz.func350.trans (congrArg some (by kernel_rfl))
  f197 := Tryz.func351.trans (congrArg some (by kernel_rfl))
  f217 := Tryz.func181.trans (congrArg some (by kernel_rfl))
  f218 := Tryz.func352.trans (congrArg some (by kernel_rfl))
  f219 := Tryz.func194.trans (congrArg some (by kernel_rfl))
  f224 := Tryz.func244.trans (congrArg some (by kernel_rfl))
  f225 := Tryz.func243.trans (congrArg some (by kernel_rfl))
  f240 := Tryz.func358.trans (congrArg some (by kernel_rfl))
  f241 := Tryz.func359.trans (congrArg some (by kernel_rfl))
  f260 := Tryz.func370.trans (congrArg some (by kernel_rfl))
  f266 := Tryz.func225.trans (congrArg some (by kernel_rfl))
  f267 := Tryz.func245.trans (congrArg some (by kernel_rfl))
  f276 := Tryz.func374.trans (congrArg some (by kernel_rfl))
  f277 := Tryz.func375.trans (congrArg some (by kernel_rfl))
  f314 := Tryz.func281.trans (congrArg some (by kernel_rfl))
  t0 := Tryz.underlying0
  a0 := Tryz.isAgg0
  z0 := Tryz.sizeOf0
  v0 := Tryz.zeroValue0
  t3 := Tryz.underlying3
  a3 := Tryz.isAgg3
  z3 := Tryz.sizeOf3
  v3 := Tryz.zeroValue3
  t4 := Tryz.underlying4
  a4 := Tryz.isAgg4
  z4 := Tryz.sizeOf4
  v4 := Tryz.zeroValue4
  t5 := Tryz.underlying5
  a5 := Tryz.isAgg5
  z5 := Tryz.sizeOf5
  v5 := Tryz.zeroValue5
  t9 := Tryz.underlying9
  a9 := Tryz.isAgg9
  z9 := Tryz.sizeOf9
  v9 := Tryz.zeroValue9
  t20 := Tryz.underlying20
  a20 := Tryz.isAgg20
  z20 := Tryz.sizeOf20
  v20 := Tryz.zeroValue20
  t21 := Tryz.underlying21
  a21 := Tryz.isAgg21
  z21 := Tryz.sizeOf21
  v21 := Tryz.zeroValue21
  t37 := Tryz.underlying39
  a37 := Tryz.isAgg39
  z37 := Tryz.sizeOf39
  v37 := Tryz.zeroValue39
  t46 := Tryz.underlying147
  a46 := Tryz.isAgg147
  z46 := Tryz.sizeOf147
  v46 := Tryz.zeroValue147
  t51 := Tryz.underlying197
  a51 := Tryz.isAgg197
  z51 := Tryz.sizeOf197
  v51 := Tryz.zeroValue197
  t70 := Tryz.underlying318
  a70 := Tryz.isAgg318
  z70 := Tryz.sizeOf318
  v70 := Tryz.zeroValue318
  t72 := Tryz.underlying320
  a72 := Tryz.isAgg320
  z72 := Tryz.sizeOf320
  v72 := Tryz.zeroValue320
  t75 := Tryz.underlying293
  a75 := Tryz.isAgg293
  z75 := Tryz.sizeOf293
  v75 := Tryz.zeroValue293
  t76 := Tryz.underlying294
  a76 := Tryz.isAgg294
  z76 := Tryz.sizeOf294
  v76 := Tryz.zeroValue294
  t105 := Tryz.underlying334
  a105 := Tryz.isAgg334
  z105 := Tryz.sizeOf334
  v105 := Tryz.zeroValue334
  t119 := Tryz.underlying356
  a119 := Tryz.isAgg356
  z119 := Tryz.sizeOf356
  t127 := Tryz.underlying342
  a127 := Tryz.isAgg342
  z127 := Tryz.sizeOf342
  v127 := Tryz.zeroValue342
  t138 := Tryz.underlying358
  a138 := Tryz.isAgg358
  z138 := Tryz.sizeOf358
  v138 := Tryz.zeroValue358
  t139 := Tryz.underlying359
  a139 := Tryz.isAgg359
  z139 := Tryz.sizeOf359
  v139 := Tryz.zeroValue359
  t146 := Tryz.underlying282
  a146 := Tryz.isAgg282
  z146 := Tryz.sizeOf282
  v146 := Tryz.zeroValue282
  t164 := Tryz.underlying353
  a164 := Tryz.isAgg353
  z164 := Tryz.sizeOf353
  v164 := Tryz.zeroValue353
  g1 := by kernel_rfl
  g3 := by kernel_rfl
  g4 := by kernel_rfl }
theorem Tryz.Builder_Extra_154 : Builder.Extra Tryz.prog Tryz.lays154_ren := {
  sizeBuilder := by kernel_rfl
  liesBuilder := by kernel_rfl
  t5 := Tryz.underlying5
  a5 := Tryz.isAgg5
  z5 := Tryz.sizeOf5
  v5 := Tryz.zeroValue5
  infoByte := by kernel_rfl
  cellsByte := by kernel_rfl
  sizeByte := by kernel_rfl
  neB5 := by decide }
open Go.RowKit Go.Lib in
theorem Tryz.strings_Replace (s old new : ByteArray) (n : Int) (m : Int) (w : World) (hs : s.size < 4294967281) (hm : w.cell? ⟨0, 0, none⟩ = some (.int .i64 m)) (h1 : 1 ≤ old.size) (hlen : s.size + Lib.countB s old * new.size ≤ 140737488355328) :
    Calls Tryz.prog 328 #[.string s, .string old, .string new, .int .i64 n] w fun e w' =>
      e = .returned (.string ⟨(Lib.replace s.data.toList old.data.toList new.data.toList n).toArray⟩) ∧ Below w.heap.size w w' := Any.strings_Replace Tryz.lays154 Tryz.Builder_Extra_154 s old new n m w hs hm h1 hlen
def Tryz.lays155_ren : Go.Shelf.Ren := ⟨fun | 155 => 306 | 154 => 328 | 138 => 318 | 165 => 327 | 143 => 147 | 166 => 324 | 197 => 351 | 169 => 325 | 195 => 350 | 218 => 352 | 240 => 358 | 241 => 359 | 219 => 194 | 260 => 370 | 276 => 374 | 277 => 375 | 217 => 181 | 225 => 243 | 224 => 244 | 267 => 245 | 266 => 225 | 314 => 281 | n => n, fun | 9 => 9 | 3 => 3 | 4 => 4 | 72 => 320 | 0 => 0 | 76 => 294 | 105 => 334 | 21 => 21 | 5 => 5 | 70 => 318 | 20 => 20 | 37 => 39 | 75 => 293 | 127 => 342 | 164 => 353 | 46 => 147 | 119 => 356 | 139 => 359 | 138 => 358 | 146 => 282 | 51 => 197 | 80 => 104 | n => n, fun | 1 => 0 | 3 => 6 | 4 => 7 | n => n⟩
theorem Tryz.lays155 : Go.Proofs.Lays.n155 Tryz.prog Tryz.lays155_ren := {
  mixed := by kernel_rfl
  f138 := Tryz.func318.trans (congrArg some (by kernel_rfl))
  f143 := Tryz.func147.trans (congrArg some (by kernel_rfl))
  f154 := Tryz.func328.trans (congrArg some (by kernel_rfl))
  f155 := Tryz.func306.trans (congrArg some (by kernel_rfl))
  f165 := Tryz.func327.trans (congrArg some (by kernel_rfl))
  f166 := Tryz.func324.trans (congrArg some (by kernel_rfl))
  f169 := Tryz.func325.trans (congrArg some (by kernel_rfl))
  f195 := Tryz.func350.trans (congrArg some (by kernel_rfl))
  f197 := Tryz.func351.trans (congrArg some (by kernel_rfl))
  f217 := Tryz.func181.trans (congrArg some (by kernel_rfl))
  f218 := Tryz.func352.trans (congrArg some (by kernel_rfl))
  f219 := Tryz.func194.trans (congrArg some (by kernel_rfl))
  f224 := Tryz.func244.trans (congrArg some (by kernel_rfl))
  f225 := Tryz.func243.trans (congrArg some (by kernel_rfl))
  f240 := Tryz.func358.trans (congrArg some (by kernel_rfl))
  f241 := Tryz.func359.trans (congrArg some (by kernel_rfl))
  f260 := Tryz.func370.trans (congrArg some (by kernel_rfl))
  f266 := Tryz.func225.trans (congrArg some (by kernel_rfl))
  f267 := Tryz.func245.trans (congrArg some (by kernel_rfl))
  f276 := Tryz.func374.trans (congrArg some (by kernel_rfl))
  f277 := Tryz.func375.trans (congrArg some (by kernel_rfl))
  f314 := Tryz.func281.trans (congrArg some (by kernel_rfl))
  t0 := Tryz.underlying0
  a0 := Tryz.isAgg0
  z0 := Tryz.sizeOf0
  v0 := Tryz.zeroValue0
  t3 := Tryz.underlying3
  a3 := Tryz.isAgg3
  z3 := Tryz.sizeOf3
  v3 := Tryz.zeroValue3
  t4 := Tryz.underlying4
  a4 := Tryz.isAgg4
  z4 := Tryz.sizeOf4
  v4 := Tryz.zeroValue4
  t5 := Tryz.underlying5
  a5 := Tryz.isAgg5
  z5 := Tryz.sizeOf5
  v5 := Tryz.zeroValue5
  t9 := Tryz.underlying9
  a9 := Tryz.isAgg9
  z9 := Tryz.sizeOf9
  v9 := Tryz.zeroValue9
  t20 := Tryz.underlying20
  a20 := Tryz.isAgg20
  z20 := Tryz.sizeOf20
  v20 := Tryz.zeroValue20
  t21 := Tryz.underlying21
  a21 := Tryz.isAgg21
  z21 := Tryz.sizeOf21
  v21 := Tryz.zeroValue21
  t37 := Tryz.underlying39
  a37 := Tryz.isAgg39
  z37 := Tryz.sizeOf39
  v37 := Tryz.zeroValue39
  t46 := Tryz.underlying147
  a46 := Tryz.isAgg147
  z46 := Tryz.sizeOf147
  v46 := Tryz.zeroValue147
  t51 := Tryz.underlying197
  a51 := Tryz.isAgg197
  z51 := Tryz.sizeOf197
  v51 := Tryz.zeroValue197
  t70 := Tryz.underlying318
  a70 := Tryz.isAgg318
  z70 := Tryz.sizeOf318
  v70 := Tryz.zeroValue318
  t72 := Tryz.underlying320
  a72 := Tryz.isAgg320
  z72 := Tryz.sizeOf320
  v72 := Tryz.zeroValue320
  t75 := Tryz.underlying293
  a75 := Tryz.isAgg293
  z75 := Tryz.sizeOf293
  v75 := Tryz.zeroValue293
  t76 := Tryz.underlying294
  a76 := Tryz.isAgg294
  z76 := Tryz.sizeOf294
  v76 := Tryz.zeroValue294
  t105 := Tryz.underlying334
  a105 := Tryz.isAgg334
  z105 := Tryz.sizeOf334
  v105 := Tryz.zeroValue334
  t119 := Tryz.underlying356
  a119 := Tryz.isAgg356
  z119 := Tryz.sizeOf356
  t127 := Tryz.underlying342
  a127 := Tryz.isAgg342
  z127 := Tryz.sizeOf342
  v127 := Tryz.zeroValue342
  t138 := Tryz.underlying358
  a138 := Tryz.isAgg358
  z138 := Tryz.sizeOf358
  v138 := Tryz.zeroValue358
  t139 := Tryz.underlying359
  a139 := Tryz.isAgg359
  z139 := Tryz.sizeOf359
  v139 := Tryz.zeroValue359
  t146 := Tryz.underlying282
  a146 := Tryz.isAgg282
  z146 := Tryz.sizeOf282
  v146 := Tryz.zeroValue282
  t164 := Tryz.underlying353
  a164 := Tryz.isAgg353
  z164 := Tryz.sizeOf353
  v164 := Tryz.zeroValue353
  g1 := by kernel_rfl
  g3 := by kernel_rfl
  g4 := by kernel_rfl }
theorem Tryz.Builder_Extra_155 : Builder.Extra Tryz.prog Tryz.lays155_ren := {
  sizeBuilder := by kernel_rfl
  liesBuilder := by kernel_rfl
  t5 := Tryz.underlying5
  a5 := Tryz.isAgg5
  z5 := Tryz.sizeOf5
  v5 := Tryz.zeroValue5
  infoByte := by kernel_rfl
  cellsByte := by kernel_rfl
  sizeByte := by kernel_rfl
  neB5 := by decide }
open Go.RowKit Go.Lib in
theorem Tryz.strings_ReplaceAll (s old new : ByteArray) (m : Int) (w : World) (hs : s.size < 4294967281) (hm : w.cell? ⟨0, 0, none⟩ = some (.int .i64 m)) (h1 : 1 ≤ old.size) (hlen : s.size + Lib.countB s old * new.size ≤ 140737488355328) :
    Calls Tryz.prog 306 #[.string s, .string old, .string new] w fun e w' =>
      e = .returned (.string ⟨(Lib.replaceAll s.data.toList old.data.toList new.data.toList).toArray⟩) ∧ Below w.heap.size w w' := Any.strings_ReplaceAll Tryz.lays155 Tryz.Builder_Extra_155 s old new m w hs hm h1 hlen
def Tryz.laysNm216_ren : Go.Shelf.Ren := ⟨fun | 16 => 77 | n => n, fun | 24 => 41 | 9 => 9 | 4 => 4 | n => n, fun | n => n⟩
theorem Tryz.laysNm216 : Go.Proofs.Lays2.n16 Tryz.prog Tryz.laysNm216_ren := {
  mixed := by kernel_rfl
  f16 := Tryz.func77.trans (congrArg some (by kernel_rfl))
  t4 := Tryz.underlying4
  a4 := Tryz.isAgg4
  z4 := Tryz.sizeOf4
  v4 := Tryz.zeroValue4
  t9 := Tryz.underlying9
  a9 := Tryz.isAgg9
  z9 := Tryz.sizeOf9
  v9 := Tryz.zeroValue9
  t24 := Tryz.underlying41
  a24 := Tryz.isAgg41
  z24 := Tryz.sizeOf41
  v24 := Tryz.zeroValue41
  i9 := by kernel_rfl }
open Go.RowKit Go.Lib in
theorem Tryz.slices_Clone_string (b off n c : Nat) (zs : List ByteArray) (w : World) (hz : n ≤ zs.length) (hbig : n * 16 ≤ 140737488355328) (hc : ∀ j, j < zs.length → w.cell? ⟨b, off + j, none⟩ = some (.string (zs.getD j ByteArray.empty))) :
    Calls Tryz.prog 77 #[.slice (some ⟨b, off, none⟩) n c] w fun e w' => ∃ v', e = .returned v' ∧ w'.ownsRow w.heap.size 9 1 v' n ((zs.take n).map (Value.string)) ∧ v' ≠ .slice none 0 0 ∧ Below w.heap.size w w' := Any.slices_Clone_string Tryz.laysNm216 b off n c zs w hz hbig hc
open Go.RowKit Go.Lib in
theorem Tryz.slices_Clone_string_nil (n c : Nat) (w : World) :
    Calls Tryz.prog 77 #[.slice none n c] w fun e w' => e = .returned (.slice none 0 0) ∧ w' = w := Any.slices_Clone_string_nil Tryz.laysNm216 n c w
open Go.RowKit Go.Lib in
theorem Tryz.slices_Clone_string_zero (a : Addr) (c : Nat) (w : World) :
    Calls Tryz.prog 77 #[.slice (some a) 0 c] w fun e w' => ∃ v', e = .returned v' ∧ w'.ownsRow w.heap.size 9 1 v' 0 [] ∧ v' ≠ .slice none 0 0 ∧ Below w.heap.size w w' := Any.slices_Clone_string_zero Tryz.laysNm216 a c w
open Go.RowKit Go.Sort in
theorem Tryz.slices_Sort_string_none (p : Option Addr) (cap : Nat) (w : World) :
    Calls Tryz.prog 57 #[.slice p 0 cap] w fun e w' => e = .returned (.tuple #[]) ∧ w' = w := Any.slices_Sort_string_none Tryz.lays190 p cap w
def Tryz.sortL_ren : Go.Shelf.Ren := ⟨fun | 6 => 191 | 15 => 114 | 14 => 242 | 28 => 176 | 29 => 177 | 20 => 273 | 21 => 274 | 22 => 275 | 23 => 276 | 24 => 277 | 25 => 278 | 26 => 279 | 27 => 280 | 46 => 299 | 47 => 216 | 48 => 217 | 49 => 300 | 50 => 301 | 57 => 323 | n => n, fun | 22 => 43 | 24 => 26 | 25 => 167 | 3 => 3 | 39 => 147 | 0 => 0 | 53 => 197 | 55 => 199 | 4 => 4 | 46 => 191 | 45 => 190 | 50 => 171 | 5 => 5 | 9 => 9 | 66 => 230 | 70 => 234 | 76 => 265 | 77 => 266 | n => n, fun | n => n⟩
theorem Tryz.sortL : Go.Proofs.SlLaysF0.n6 Tryz.prog Tryz.sortL_ren := {
  mixed := by kernel_rfl
  f6 := ⟨Tryz.f191.name, by decide, Tryz.func191.trans (congrArg some (by kernel_rfl))⟩
  f14 := ⟨Tryz.f242.name, by decide, Tryz.func242.trans (congrArg some (by kernel_rfl))⟩
  f15 := Tryz.func114.trans (congrArg some (by kernel_rfl))
  f20 := ⟨Tryz.f273.name, by decide, Tryz.func273.trans (congrArg some (by kernel_rfl))⟩
  f21 := ⟨Tryz.f274.name, by decide, Tryz.func274.trans (congrArg some (by kernel_rfl))⟩
  f22 := ⟨Tryz.f275.name, by decide, Tryz.func275.trans (congrArg some (by kernel_rfl))⟩
  f23 := ⟨Tryz.f276.name, by decide, Tryz.func276.trans (congrArg some (by kernel_rfl))⟩
  f24 := ⟨Tryz.f277.name, by decide, Tryz.func277.trans (congrArg some (by kernel_rfl))⟩
  f25 := ⟨Tryz.f278.name, by decide, Tryz.func278.trans (congrArg some (by kernel_rfl))⟩
  f26 := ⟨Tryz.f279.name, by decide, Tryz.func279.trans (congrArg some (by kernel_rfl))⟩
  f27 := ⟨Tryz.f280.name, by decide, Tryz.func280.trans (congrArg some (by kernel_rfl))⟩
  f28 := Tryz.func176.trans (congrArg some (by kernel_rfl))
  f29 := Tryz.func177.trans (congrArg some (by kernel_rfl))
  f46 := ⟨Tryz.f299.name, by decide, Tryz.func299.trans (congrArg some (by kernel_rfl))⟩
  f47 := Tryz.func216.trans (congrArg some (by kernel_rfl))
  f48 := Tryz.func217.trans (congrArg some (by kernel_rfl))
  f49 := ⟨Tryz.f300.name, by decide, Tryz.func300.trans (congrArg some (by kernel_rfl))⟩
  f50 := ⟨Tryz.f301.name, by decide, Tryz.func301.trans (congrArg some (by kernel_rfl))⟩
  f57 := ⟨Tryz.f323.name, by decide, Tryz.func323.trans (congrArg some (by kernel_rfl))⟩
  t0 := Tryz.underlying0
  a0 := Tryz.isAgg0
  z0 := Tryz.sizeOf0
  v0 := Tryz.zeroValue0
  t3 := Tryz.underlying3
  a3 := Tryz.isAgg3
  z3 := Tryz.sizeOf3
  v3 := Tryz.zeroValue3
  t4 := Tryz.underlying4
  a4 := Tryz.isAgg4
  z4 := Tryz.sizeOf4
  v4 := Tryz.zeroValue4
  t5 := Tryz.underlying5
  a5 := Tryz.isAgg5
  z5 := Tryz.sizeOf5
  v5 := Tryz.zeroValue5
  t9 := Tryz.underlying9
  a9 := Tryz.isAgg9
  z9 := Tryz.sizeOf9
  v9 := Tryz.zeroValue9
  t22 := Tryz.underlying43
  a22 := Tryz.isAgg43
  z22 := Tryz.sizeOf43
  v22 := Tryz.zeroValue43
  t25 := Tryz.underlying167
  a25 := Tryz.isAgg167
  z25 := Tryz.sizeOf167
  v25 := Tryz.zeroValue167
  t39 := Tryz.underlying147
  a39 := Tryz.isAgg147
  z39 := Tryz.sizeOf147
  v39 := Tryz.zeroValue147
  t45 := Tryz.underlying190
  a45 := Tryz.isAgg190
  z45 := Tryz.sizeOf190
  v45 := Tryz.zeroValue190
  t46 := Tryz.underlying191
  a46 := Tryz.isAgg191
  z46 := Tryz.sizeOf191
  v46 := Tryz.zeroValue191
  t50 := Tryz.underlying171
  a50 := Tryz.isAgg171
  z50 := Tryz.sizeOf171
  v50 := Tryz.zeroValue171
  t53 := Tryz.underlying197
  a53 := Tryz.isAgg197
  z53 := Tryz.sizeOf197
  v53 := Tryz.zeroValue197
  t55 := Tryz.underlying199
  a55 := Tryz.isAgg199
  z55 := Tryz.sizeOf199
  v55 := Tryz.zeroValue199
  t66 := Tryz.underlying230
  a66 := Tryz.isAgg230
  z66 := Tryz.sizeOf230
  v66 := Tryz.zeroValue230
  t70 := Tryz.underlying234
  a70 := Tryz.isAgg234
  z70 := Tryz.sizeOf234
  v70 := Tryz.zeroValue234
  t76 := Tryz.underlying265
  a76 := Tryz.isAgg265
  z76 := Tryz.sizeOf265
  v76 := Tryz.zeroValue265
  t77 := Tryz.underlying266
  a77 := Tryz.isAgg266
  z77 := Tryz.sizeOf266
  v77 := Tryz.zeroValue266 }
end Go.Proofs

set_option linter.unusedSimpArgs false
set_option linter.unusedVariables false
namespace Go.Proofs
open Go.Shelf Go.RowKit Go.Lib Go.Sort
theorem Tryz.sort57 (blk off cap : Nat) (ss : List (List UInt8)) (w : World) (hH : Holds encStr w blk off ss.toArray) (hblk : blk < w.heap.size) (hsz : ss.length < 4611686018427387904) :
    Calls Tryz.prog 57 #[.slice (some ⟨blk, off, none⟩) ss.length cap] w fun e w' =>
      e = .returned (.tuple #[]) ∧ ∃ n os, w' = grow (putRow encStr (Sort.ahead w n) blk off (ss.mergeSort fun x y => decide (x ≤ y)).toArray) os :=
  Any.slices_Sort_string Tryz.lays190 blk off cap ss w hH hblk hsz
theorem Tryz.sort57_none (p : Option Addr) (cap : Nat) (w : World) : Calls Tryz.prog 57 #[.slice p 0 cap] w fun e w' => e = .returned (.tuple #[]) ∧ w' = w :=
  Any.slices_Sort_string_none Tryz.lays190 p cap w
set_option maxHeartbeats 1000000 in
theorem Tryz.sorted162 (v0 : Value) (w : World) (R1 R2 : Value → World → Prop) (h1 : Calls Tryz.prog 212 #[v0] w fun e w' => ∃ v, e = .returned v ∧ R1 v w')
   (h2 : ∀ v w1, R1 v w1 → Calls Tryz.prog 57 #[v] w1 fun e w' => e = .returned (.tuple #[]) ∧ R2 v w') : Calls Tryz.prog 162 #[v0] w fun e w' => ∃ v, e = .returned v ∧ R2 v w' := by
  go_enter Tryz.func162, Tryz.ntmps162
  go_wp2_with (first | (go_at_call 212; refine h1.mono ?_; rintro e w' ⟨v, rfl, hv⟩) | (go_at_call 57; refine (h2 _ _ hv).mono ?_; rintro e w' ⟨rfl, hr⟩))
  go_ret
  exact ⟨_, rfl, hr⟩
theorem Tryz.enters57 : ∀ args w, (callFunc 257 args).run Tryz.prog w = .ok (.enter 257 args) w := enters_of Tryz.func257 (by kernel_rfl) rfl
end Go.Proofs

namespace Go.Vam
open Go.Proofs Go.Sort


theorem body212 : Tryz.f212.body = some (collectCode 41 184 257) := by kernel_rfl
theorem body257 : Tryz.f257.body = some (appCode false 0 41 9 184) := by kernel_rfl
theorem body213 : Tryz.f213.body = some (keysCodeS 0 156 9 4 23) := by kernel_rfl
theorem body378 : Tryz.f378.body = some (keysCodeS 0 77 9 4 23) := by kernel_rfl
theorem elem41 : ElemOk Tryz.prog 41 9 1 16 [.str []] := {
  und := Tryz.underlying41
  undk := by kernel_rfl
  size := by kernel_rfl
  bytes := by kernel_rfl
  zero := by kernel_rfl
  zlen := rfl
  has := by kernel_rfl
  sz0 := by decide
  szle := by decide
  byle := by decide
  sizeS := by kernel_rfl }

def decS (m : MapEntry) : List UInt8 := match m.key with
  | .string s => s.data.toList
  | _ => []
def keyS : D × D → Option (List UInt8)
  | (.str s, _) => some s
  | _ => none
def keysS : List (D × D) → Option (List (List UInt8))
  | [] => some []
  | e :: es => match keyS e, keysS es with
    | some k, some ks => some (k :: ks)
    | _, _ => none

/-- The iterators whose keys are texts. -/
def iterS : List FuncId := [213, 378]

def natSortedS : Native := fun _ args st => match args with
  | [.func f [] [.ptr b 0]] => if iterS.contains f then match st[b]? with
      | some (.cells (.map m :: _)) => match st[m]? with
        | some (.map es) => match keysS es with
          | some ks => if ks.length < 2 ^ 19 then some (rowD 1 st.length ((sortB leS ks).map fun s => [.str s]), st ++ rowObj ((sortB leS ks).map fun s => [.str s]), []) else none
          | none => none
        | _ => none
      | _ => none
    else none
  | _ => none

theorem keysS_spec {g : G} : ∀ {es : List (D × D)} {ks : List (List UInt8)} {M : List MapEntry}, keysS es = some ks → M.length = es.length →
    (∀ (j : Nat) (e : D × D) (m : MapEntry), es[j]? = some e → M[j]? = some m → VR g e.1 m.key) → (∀ m ∈ M, encStr (decS m) = m.key) ∧ M.map decS = ks
  | [], ks, [], h, _, _ => by cases h; simp
  | [], ks, m :: M, h, hl, _ => by simp at hl
  | e :: es, ks, [], h, hl, _ => by simp at hl
  | e :: es, ks, m :: M, h, hl, hv => by
    unfold keysS at h
    split at h
    · rename_i k ks' h1 h2
      cases h
      obtain ⟨h3, h4⟩ := keysS_spec h2 (by simpa using hl) (fun j e' m' he hm => hv (j + 1) e' m' (by simpa using he) (by simpa using hm))
      have h5 := hv 0 e m rfl rfl
      obtain ⟨e1, e2⟩ := e
      cases e1 <;> simp only [keyS] at h1 <;> try cases h1
      cases hk : m.key <;> rw [hk] at h5 <;> cases h5
      rename_i s
      have h6 : decS m = s.data.toList := by simp [decS, hk]
      constructor
      · intro m' hm'
        rcases List.mem_cons.1 hm' with rfl | hm'
        · rw [h6, hk]
        · exact h3 m' hm'
      · rw [List.map_cons, h4, h6]
    · cases h

theorem eq_encStr {g : G} {x : List UInt8} {v : Value} (h : VR g (.str x) v) : v = encStr x := by
  cases h; rfl

theorem rows_length (l : List (List UInt8)) : ((l.map fun s => [D.str s]).flatten).length = l.length := by
  induction l with
  | nil => rfl
  | cons x l ih => simp [ih]
theorem rows_flat (l : List (List UInt8)) : (l.map fun s => [D.str s]).flatten = l.map D.str := by
  induction l with
  | nil => rfl
  | cons x l ih => simp [ih]


theorem sort_row {w w1 : World} {xs : List (List UInt8)} {v : Value} (hr : SeqRow Tryz.prog 1 w (xs.map fun x => [.str x]) v w1) (hn : xs.length < 2 ^ 19) :
    Calls Tryz.prog 57 #[v] w1 fun e w' => e = .returned (.tuple #[]) ∧ SeqRow Tryz.prog 1 w ((sortB leS xs).map fun x => [.str x]) v w' := by
  obtain ⟨g, st, Ws, sl, h1, h2, h3, h4, h5⟩ := hr
  rcases h4 with ⟨h6, rfl⟩ | ⟨hne, id, hid, rfl, hst⟩
  · cases h3
    have : xs = [] := by simpa using h6
    subst this
    refine (Tryz.sort57_none none 0 w1).mono ?_
    rintro e w' ⟨rfl, rfl⟩
    exact ⟨rfl, g, st, Ws, .nilsl, h1, h2, .nilsl, .inl ⟨rfl, rfl⟩, h5⟩
  · cases h3 with
    | arr hl hc1 hc2 hc3 =>
    rename_i cap' c
    have hfl := rows_flat xs
    rw [hfl] at hst
    have hH : Holds encStr w1 c 0 xs.toArray := by
      refine row_holds h1 hl hst (by simp) fun j x u hj hx hu => ?_
      simp only [Nat.zero_add, List.getElem?_map] at hx
      simp only [List.size_toArray] at hj
      rw [List.getElem?_eq_getElem hj] at hx
      simp only [Option.map_some, Option.some.injEq] at hx
      subst hx
      rw [eq_encStr hu]
      congr 1
      simp [hj]
    have hlen : (xs.map fun x => [D.str x]).length = xs.length := by simp
    rw [hlen]
    refine (Tryz.sort57 c 0 cap' xs w1 hH (h1.blk _ _ hl) (by omega)).mono ?_
    rintro e w' ⟨rfl, n, os, rfl⟩
    refine ⟨rfl, ?_⟩
    rw [mergeSort_leS (List.Perm.refl xs)]
    have hsl : (sortB leS xs).length = xs.length := (sortB_perm xs).length_eq
    obtain ⟨h6, h7⟩ := row_put (enc := encStr) (n := n) (off := 0) (vs := (sortB leS xs).map D.str) (d := (sortB leS xs).toArray) h1 hl hst (by simp [hsl]) (by simp) (fun j x hx => by
      rw [List.getElem?_map] at hx
      cases hj : (sortB leS xs)[j]? with
      | none => rw [hj] at hx; cases hx
      | some y =>
        rw [hj] at hx
        cases hx
        have : (sortB leS xs).toArray[j]! = y := by
          obtain ⟨h8, h9⟩ := List.getElem?_eq_some_iff.1 hj
          simp [h8, h9]
        rw [this]
        exact VR.str ⟨y.toArray⟩) os
    have hcs : (xs.map D.str).take 0 ++ (sortB leS xs).map D.str ++ (xs.map D.str).drop (0 + ((sortB leS xs).map D.str).length) = (sortB leS xs).map D.str := by
      rw [List.drop_eq_nil_of_le (by simp [hsl])]
      simp
    rw [hcs] at h6 h7
    refine ⟨g, _, _, .arr 1 id 0 ((sortB leS xs).map fun x => [D.str x]).length ((sortB leS xs).map fun x => [D.str x]).length, h6, h2.trans h7, ?_, ?_, ?_⟩
    · have : ((sortB leS xs).map fun x => [D.str x]).length = xs.length := by simp [hsl]
      rw [this]
      rw [hlen] at hc1 hc2
      exact .arr hl hc1 hc2 hc3
    · refine .inr ⟨fun h => hne ?_, id, hid, rfl, ?_⟩
      · have : (sortB leS xs) = [] := by simpa using h
        rw [this] at hsl
        have : xs = [] := List.eq_nil_of_length_eq_zero (by simpa using hsl.symm)
        rw [this]; rfl
      · rw [rows_flat, getElem?_set_st, if_pos rfl, if_pos (h1.loc_lt hl)]
    · intro i o ho
      rw [getElem?_set_st] at ho
      split at ho
      · split at ho
        · cases ho; rfl
        · cases ho
      · exact h5 i o ho

theorem seq_sorted {f : FuncId} {lb : Array Value} {ks : List (List UInt8)} {w : World} (hk : ks.length < 2 ^ 19)
    (hseq : SeqGivesB Fence.wide 7 Tryz.prog f lb encStr (fun xs => xs.Perm ks) ks.length w) (eg : ∀ args w, (callFunc f args).run Tryz.prog w = .ok (.enter f args) w) :
    Calls Tryz.prog 162 #[.func (.func f) #[] lb] w fun e w' => ∃ v, e = .returned v ∧ SeqRow Tryz.prog 1 w ((sortB leS ks).map fun x => [.str x]) v w' := by
  refine Tryz.sorted162 _ w (fun v w' => ∃ xs : List (List UInt8), xs.Perm ks ∧ SeqRow Tryz.prog 1 w (xs.map fun x => [.str x]) v w') _ ?_ ?_
  · refine (callsIn_wide (n := 9)).1 ?_
    have := appSeq_holds (n := 8) (kd := D.str) (Make.one (P := Tryz.prog) (tk := 9) (by kernel_rfl)) Tryz.func257 body257 (by kernel_rfl) (by kernel_rfl) elem41 (by kernel_rfl) eg hseq hk
      (fun x g => VR.str ⟨x.toArray⟩) (fun x => rfl) (fun x => rfl) (fun x => rfl) (fun h => by cases h)
    refine collect_holds (n := 9) Tryz.func212 body212 (by kernel_rfl) (by kernel_rfl) (enters_of Tryz.func257 (by kernel_rfl) rfl) (this.mono ?_) ?_
    · rintro e w' ⟨v, xs, rfl, hx, hr⟩
      exact ⟨v, rfl, xs, hx, hr⟩
    · rintro e w' ⟨v, rfl, _⟩
      exact ⟨v, rfl⟩
  · rintro v w1 ⟨xs, hp, hr⟩
    have := sort_row hr (by rw [hp.length_eq]; exact hk)
    have e : sortB leS xs = sortB leS ks := sorted_eq leS_trans leS_total leS_antisymm (sortB_sorted leS_trans leS_total xs) ((sortB_perm xs).trans hp)
    rw [e] at this
    exact this

theorem iterS_seq {f : FuncId} (hf : iterS.contains f = true) {w : World} {c o b k : Nat} {M : Array MapEntry} (hm : w.cell? ⟨b, o, none⟩ = some (.map (some c))) (hM : w.heap[c]? = some (.map M k)) (hnd : (M.toList.map (·.born)).Nodup) (hlt : ∀ m ∈ M.toList, m.born < k)
    (hd : ∀ m ∈ M.toList, encStr (decS m) = m.key) (n : Nat) : SeqGives Fence.wide n Tryz.prog f #[.pointer (some ⟨b, o, none⟩)] encStr (fun xs => ∃ ms : List MapEntry, ms.Perm M.toList ∧ xs = ms.map decS) M.size w ∧
      ∀ args w, (callFunc f args).run Tryz.prog w = .ok (.enter f args) w := by
  have : f = 213 ∨ f = 378 := by simpa [iterS] using hf
  rcases this with rfl | rfl
  · exact ⟨(keysS_stops hd Tryz.func213 body213 (by kernel_rfl) (by kernel_rfl) Tryz.underlying156 hm hM hnd hlt).gives, enters_of Tryz.func213 (by kernel_rfl) rfl⟩
  · exact ⟨(keysS_stops hd Tryz.func378 body378 (by kernel_rfl) (by kernel_rfl) Tryz.underlying77 hm hM hnd hlt).gives, enters_of Tryz.func378 (by kernel_rfl) rfl⟩

theorem natSortedS_just {β : Nat → Nat → Option Value} (cf : CallF) : Just Tryz.prog β 162 (natSortedS cf) := by
  intro args st v st' W h g w A hb hs hA
  unfold natSortedS at h
  split at h
  case h_2 => cases h
  rename_i f b
  split at h
  case isFalse => cases h
  rename_i hf
  split at h
  case h_2 => cases h
  rename_i m cs hst
  split at h
  case h_2 => cases h
  rename_i es hes
  split at h
  case h_2 => cases h
  rename_i ks hks
  split at h
  case isFalse => cases h
  rename_i hlen
  cases h
  obtain ⟨v0, hA0⟩ : ∃ v0, A = #[v0] := by
    have := hA.size
    simp at this
    exact Array.size_eq_one_iff.1 this
  subst hA0
  have hv0 := hA.at_ 0 _ _ rfl rfl
  cases hv0 with
  | func ha hb' hva hvb =>
  rename_i A B
  have hA2 : A = #[] := by simpa using ha
  obtain ⟨vb, hB⟩ : ∃ vb, B = #[vb] := by simp at hb'; exact Array.size_eq_one_iff.1 hb'
  subst hA2 hB
  have hvb0 := hvb 0 _ _ rfl rfl
  cases hvb0 with
  | ptr hlb =>
  rename_i cb
  obtain ⟨o, ho, hr⟩ := hs.obj _ _ hlb
  rw [hst] at ho; cases ho
  obtain ⟨A, T, fr, hr⟩ := hr
  have hA0 : 0 < A.size := by have := hr.len; simp at this; omega
  have hvm := hr.at_ 0 _ _ rfl (Array.getElem?_eq_getElem hA0)
  generalize hx : A[0] = x at hvm
  cases hvm with
  | map hlm =>
  rename_i cm
  have hcell : w.cell? ⟨cb, 0, none⟩ = some (.map (some cm)) := by
    simp only [World.cell?, hr.heap]
    rw [Array.getElem?_eq_getElem hA0, hx]
    rfl
  obtain ⟨o, ho, hm⟩ := hs.obj _ _ hlm
  rw [hes] at ho; cases ho
  obtain ⟨M, k, hm⟩ := hm
  have hspec := keysS_spec (g := g) (M := M.toList) hks (by simp [hm.size]) (fun j e m he hm' => (hm.at_ j e m he (by simpa using hm')).1)
  have hsz : M.size = ks.length := by rw [← hspec.2]; simp
  have hperm : ∀ xs, (∃ ms : List MapEntry, ms.Perm M.toList ∧ xs = ms.map decS) → xs.Perm ks := by
    rintro xs ⟨ms, h1, rfl⟩
    rw [← hspec.2]
    exact h1.map _
  have hseq := fun n => (iterS_seq hf hcell hm.heap hm.born hm.lt hspec.1 n).1
  have hfin := seq_sorted (f := f) (lb := #[.pointer (some ⟨cb, 0, none⟩)]) (w := w) (ks := ks) hlen (by
    have := hseq 7
    rw [hsz] at this
    refine .of ?_
    intro l J W hW hJ hY h0
    refine (this l J W hW hJ hY h0).mono ?_
    rintro e W' ⟨h1, xs, h2, h3⟩
    exact ⟨h1, xs, hperm xs h2, h3⟩) (iterS_seq hf hcell hm.heap hm.born hm.lt hspec.1 0).2
  refine hfin.mono ?_
  rintro e w' ⟨v, rfl, hrow⟩
  obtain ⟨g', h1, h2, h3, h4⟩ := hrow.graft hs (by
    intro r hr d hd
    obtain ⟨x, _, rfl⟩ := List.mem_map.1 hr
    simp at hd; subst hd; rfl)
  exact ⟨v, g', rfl, h4, h1, h2, h3⟩

theorem Keeps_append {st st2 : St} : st.length ≤ (st ++ st2).length ∧ ∀ id, id < st.length → id ∉ ([] : Ids) → (st ++ st2)[id]? = st[id]? :=
  ⟨by simp, fun id hid _ => List.getElem?_append_left hid⟩

theorem natSortedS_keeps (cf : CallF) : Keeps (natSortedS cf) := by
  intro args st v st' W h
  unfold natSortedS at h
  repeat' split at h
  all_goals (first | cases h)
  all_goals exact Keeps_append
end Go.Vam

set_option linter.unusedSimpArgs false
set_option linter.unusedVariables false
namespace Go.Proofs
open Go.Shelf Go.RowKit Go.Lib Go.Sort Go.Vam
set_option maxHeartbeats 1000000 in
theorem Tryz.isNaN220 (x : Value) (s : ByteArray) (hx : x = .string s) (w : World) : Calls Tryz.prog 220 #[x] w fun e w' => e = .returned (.bool false) ∧ w' = w := by
  subst hx
  go_enter Tryz.func220, Tryz.ntmps220
  go_wp2
  go_ret
  exact ⟨rfl, rfl⟩
set_option maxHeartbeats 1000000 in
theorem Tryz.cmp193 (a b : ByteArray) (w : World) : Calls Tryz.prog 193 #[.string a, .string b] w fun e w' => e = .returned (.int .i64 (cmpS a.toList b.toList)) ∧ w' = w := by
  go_enter Tryz.func193, Tryz.ntmps193
  go_wp2_with (go_at_call 220; refine (Tryz.isNaN220 _ _ rfl _).mono ?_; rintro e w' ⟨rfl, rfl⟩)
  all_goals go_ret
  all_goals simp_all [cmpS]
def encL (x : Bool × List UInt8) : List Value := [.bool x.1, encStr x.2]

theorem toList_enc (l : List UInt8) : (ByteArray.mk l.toArray).toList = l := by
  simp [ByteArray.toList_eq]
set_option maxHeartbeats 1000000 in
theorem Tryz.order141 (x y : Bool × List UInt8) (w : World) : Calls Tryz.prog 141 #[.agg (encL x).toArray, .agg (encL y).toArray] w fun e w' => e = .returned (.int .i64 (cmpLab x y)) ∧ ∃ q os', w' = grow (w.drewN q) os' := by
  obtain ⟨xb, xs⟩ := x
  obtain ⟨yb, ys⟩ := y
  have hcon : ∀ W', Calls Tryz.prog 193 #[encStr xs, encStr ys] W' fun e w' => e = .returned (.int .i64 (cmpS xs ys)) ∧ w' = W' := fun W' => by
    have := Tryz.cmp193 ⟨xs.toArray⟩ ⟨ys.toArray⟩ W'
    rw [toList_enc, toList_enc] at this
    exact this
  unfold cmpLab
  dsimp only
  generalize cmpS xs ys = r at hcon
  simp only [encL]
  generalize encStr xs = vx at hcon
  generalize encStr ys = vy at hcon
  cases xb <;> cases yb
  all_goals
    go_enter Tryz.func141, Tryz.ntmps141
    go_wp2_with (go_at_call 193; refine (hcon _).mono ?_; rintro e w' ⟨rfl, rfl⟩)
    all_goals go_ret
    all_goals exact ⟨rfl, 0, _, by rw [alloc_eq_grow, alloc_eq_grow, grow_grow]; rfl⟩
theorem Tryz.cmpLays141 (blk off size : Nat) (w : World) : CmpLays Tryz.prog 141 #[] encL 2 cmpLab blk off size w :=
  fun _ _ _ _ x y => Tryz.order141 x y _
end Go.Proofs

namespace Go.Proofs
open Go.Shelf Go.RowKit Go.Lib Go.Sort Go.Vam
theorem Tryz.sort191 (blk off cap : Nat) (d : Array (Bool × List UInt8)) (w : World) (hH : HoldsK encL 2 w blk off d) (hblk : blk < w.heap.size) (hsz : d.size < 4611686018427387904) :
    Calls Tryz.prog 191 #[.slice (some ⟨blk, off, none⟩) d.size cap, .func (.func 141) #[] #[]] w fun e w' => e = .returned (.tuple #[]) ∧ ∃ n os, w' = sortWorldK encL 2 w blk off n (d.toList.mergeSort fun x y => !(ltOf cmpLab) y x).toArray os :=
  AnyQ.slices_SortFunc_total Tryz.sortL 2 Tryz.isAgg26 Tryz.sizeOf26 encL (fun _ => rfl) (fun x v hv => by simp [encL] at hv; rcases hv with rfl | rfl <;> rfl) cmpLab swoL 141 #[] blk off cap d w (enters_of Tryz.func141 (by kernel_rfl) rfl) (Tryz.cmpLays141 blk off d.size w) hH hblk hsz partL
theorem Tryz.sort191_none (p : Option Addr) (cap : Nat) (fv : Value) (w : World) : Calls Tryz.prog 191 #[.slice p 0 cap, fv] w fun e w' => e = .returned (.tuple #[]) ∧ w' = w :=
  AnyF.slices_SortFunc_none Tryz.sortL p cap fv w
set_option maxHeartbeats 1000000 in
theorem Tryz.sorted139 (v0 fv : Value) (w : World) (R1 R2 : Value → World → Prop) (h1 : Calls Tryz.prog 190 #[v0] w fun e w' => ∃ v, e = .returned v ∧ R1 v w')
   (h2 : ∀ v w1, R1 v w1 → Calls Tryz.prog 191 #[v, fv] w1 fun e w' => e = .returned (.tuple #[]) ∧ R2 v w') : Calls Tryz.prog 139 #[v0, fv] w fun e w' => ∃ v, e = .returned v ∧ R2 v w' := by
  go_enter Tryz.func139, Tryz.ntmps139
  go_wp2_with (first | (go_at_call 190; refine h1.mono ?_; rintro e w' ⟨v, rfl, hv⟩) | (go_at_call 191; refine (h2 _ _ hv).mono ?_; rintro e w' ⟨rfl, hr⟩))
  go_ret
  exact ⟨_, rfl, hr⟩
end Go.Proofs

namespace Go.Vam
open Go.Proofs Go.Sort
def DL (x : Bool × List UInt8) : List D := [.bool x.1, .str x.2]

theorem body190 : Tryz.f190.body = some (collectCode 43 165 241) := by kernel_rfl
theorem body241 : Tryz.f241.body = some (appCode true 0 43 26 165) := by kernel_rfl
theorem body192 : Tryz.f192.body = some (keysCodeA 0 108 26 4 129) := by kernel_rfl
theorem elem43 : ElemOk Tryz.prog 43 26 2 24 [.bool false, .str []] := {
  und := Tryz.underlying43
  undk := by kernel_rfl
  size := by kernel_rfl
  bytes := by kernel_rfl
  zero := by kernel_rfl
  zlen := rfl
  has := by kernel_rfl
  sz0 := by decide
  szle := by decide
  byle := by decide
  sizeS := by kernel_rfl }

theorem DL_at {xs : List (Bool × List UInt8)} {j : Nat} (hj : j < xs.length * 2) : ∃ x, xs[j / 2]? = some x ∧ (xs.map DL).flatten[j]? = (DL x)[j % 2]? := by
  have h1 : j / 2 < xs.length := by omega
  refine ⟨xs[j / 2], List.getElem?_eq_getElem h1, ?_⟩
  have h2 : j % 2 < (DL xs[j / 2]).length := by show j % 2 < 2; omega
  have := flatten_get (rows := xs.map DL) (sz := 2) (fun r hr => by obtain ⟨x, _, rfl⟩ := List.mem_map.1 hr; rfl) (i := j / 2) (j := j % 2) (r := DL xs[j / 2]) (d := (DL xs[j / 2])[j % 2])
    (by rw [List.getElem?_map, List.getElem?_eq_getElem h1]; rfl) (List.getElem?_eq_getElem h2)
  rw [List.getElem?_eq_getElem h2, ← this]
  congr 1
  omega

theorem DL_len (xs : List (Bool × List UInt8)) : (xs.map DL).flatten.length = xs.length * 2 := by
  induction xs with
  | nil => rfl
  | cons x l ih => simp only [List.map_cons, List.flatten_cons, List.length_append, ih, List.length_cons]; show 2 + _ = _; omega

theorem flatK_at {xs : List (Bool × List UInt8)} {j : Nat} {x : Bool × List UInt8} (hj : j < xs.length * 2) (hx : xs[j / 2]? = some x) : (flatK encL 2 xs.toArray)[j]! = (encL x)[j % 2]! := by
  rw [get_flatK _ _ _ _ (by simpa using hj)]
  obtain ⟨h1, h2⟩ := List.getElem?_eq_some_iff.1 hx
  congr 1
  simp [h1, h2]

theorem DL_VR {g : G} (x : Bool × List UInt8) (r : Nat) (hr : r < 2) : ∃ d, (DL x)[r]? = some d ∧ VR g d ((encL x)[r]!) ∧ ∀ v, VR g d v → v = (encL x)[r]! := by
  match r, hr with
  | 0, _ => exact ⟨.bool x.1, rfl, .bool _, fun v h => by cases h; rfl⟩
  | 1, _ => exact ⟨.str x.2, rfl, VR.str ⟨x.2.toArray⟩, fun v h => by rw [eq_encStr h]; rfl⟩

theorem sort_rowL {w w1 : World} {xs : List (Bool × List UInt8)} {v : Value} (hr : SeqRow Tryz.prog 2 w (xs.map DL) v w1) (hn : xs.length < 2 ^ 19) :
    Calls Tryz.prog 191 #[v, .func (.func 141) #[] #[]] w1 fun e w' => e = .returned (.tuple #[]) ∧ SeqRow Tryz.prog 2 w ((sortB leL xs).map DL) v w' := by
  obtain ⟨g, st, Ws, sl, h1, h2, h3, h4, h5⟩ := hr
  rcases h4 with ⟨h6, rfl⟩ | ⟨hne, id, hid, rfl, hst⟩
  · cases h3
    have : xs = [] := by simpa using h6
    subst this
    refine (Tryz.sort191_none none 0 _ w1).mono ?_
    rintro e w' ⟨rfl, rfl⟩
    exact ⟨rfl, g, st, Ws, .nilsl, h1, h2, .nilsl, .inl ⟨rfl, rfl⟩, h5⟩
  · cases h3 with
    | arr hl hc1 hc2 hc3 =>
    rename_i cap' c
    have hH : HoldsK encL 2 w1 c 0 xs.toArray := by
      refine row_holds h1 hl hst (by rw [DL_len]; simp) fun j x u hj hx hu => ?_
      simp only [size_flatK, List.size_toArray] at hj
      rw [Nat.zero_add] at hx
      obtain ⟨y, hy1, hy2⟩ := DL_at hj
      obtain ⟨d, hd1, hd2, hd3⟩ := DL_VR (g := g) y (j % 2) (by omega)
      rw [hy2, hd1] at hx
      cases hx
      rw [flatK_at hj hy1]
      exact hd3 u hu
    have hlen : (xs.map DL).length = xs.length := by simp
    rw [hlen]
    refine (Tryz.sort191 c 0 cap' xs.toArray w1 hH (h1.blk _ _ hl) (by simp; omega)).mono ?_
    rintro e w' ⟨rfl, n, os, rfl⟩
    refine ⟨rfl, ?_⟩
    show SeqRow Tryz.prog 2 w _ _ (sortWorldK encL 2 w1 c 0 n (xs.mergeSort _).toArray os)
    rw [mergeSort_leL (List.Perm.refl xs)]
    have hsl : (sortB leL xs).length = xs.length := (sortB_perm xs).length_eq
    obtain ⟨h6, h7⟩ := row_put (enc := @_root_.id Value) (n := n) (off := 0) (vs := ((sortB leL xs).map DL).flatten) (d := flatK encL 2 (sortB leL xs).toArray) h1 hl hst (by rw [DL_len]; simp [hsl]) (by rw [DL_len]; simp) (fun j x hx => by
      have hj : j < (sortB leL xs).length * 2 := by rw [← DL_len]; exact (List.getElem?_eq_some_iff.1 hx).1
      obtain ⟨y, hy1, hy2⟩ := DL_at hj
      obtain ⟨d, hd1, hd2, hd3⟩ := DL_VR (g := g) y (j % 2) (by omega)
      rw [hy2, hd1] at hx
      cases hx
      show VR g _ ((flatK encL 2 _)[j]!)
      rw [flatK_at hj hy1]
      exact hd2) os
    have hcs : ((xs.map DL).flatten).take 0 ++ ((sortB leL xs).map DL).flatten ++ ((xs.map DL).flatten).drop (0 + (((sortB leL xs).map DL).flatten).length) = ((sortB leL xs).map DL).flatten := by
      rw [List.drop_eq_nil_of_le (by rw [DL_len, DL_len, hsl]; omega)]
      simp
    rw [hcs] at h6 h7
    refine ⟨g, _, _, .arr 2 id 0 ((sortB leL xs).map DL).length ((sortB leL xs).map DL).length, h6, h2.trans h7, ?_, ?_, ?_⟩
    · have : ((sortB leL xs).map DL).length = xs.length := by simp [hsl]
      rw [this]
      rw [hlen] at hc1 hc2
      exact .arr hl hc1 hc2 hc3
    · refine .inr ⟨fun h => hne ?_, id, hid, rfl, ?_⟩
      · have : (sortB leL xs) = [] := by simpa using h
        rw [this] at hsl
        have : xs = [] := List.eq_nil_of_length_eq_zero (by simpa using hsl.symm)
        rw [this]; rfl
      · rw [getElem?_set_st, if_pos rfl, if_pos (h1.loc_lt hl)]
    · intro i o ho
      rw [getElem?_set_st] at ho
      split at ho
      · split at ho
        · cases ho; rfl
        · cases ho
      · exact h5 i o ho

def encA (x : Bool × List UInt8) : Value := .agg (encL x).toArray

theorem seq_sortedL {f : FuncId} {lb : Array Value} {ks : List (Bool × List UInt8)} {w : World} (hk : ks.length < 2 ^ 19)
    (hseq : ∀ n, SeqGivesB Fence.wide n Tryz.prog f lb encA (fun xs => xs.Perm ks) ks.length w) (eg : ∀ args w, (callFunc f args).run Tryz.prog w = .ok (.enter f args) w) :
    Calls Tryz.prog 139 #[.func (.func f) #[] lb, .func (.func 141) #[] #[]] w fun e w' => ∃ v, e = .returned v ∧ SeqRow Tryz.prog 2 w ((sortB leL ks).map DL) v w' := by
  refine Tryz.sorted139 _ _ w (fun v w' => ∃ xs : List (Bool × List UInt8), xs.Perm ks ∧ SeqRow Tryz.prog 2 w (xs.map DL) v w') _ ?_ ?_
  · refine (callsIn_wide (n := 9)).1 ?_
    have := appSeq_holds (n := 8) (kd := fun x => D.agg (DL x)) (Make.agg (P := Tryz.prog) (tk := 26) (by kernel_rfl)) Tryz.func241 body241 (by kernel_rfl) (by kernel_rfl) elem43 (by kernel_rfl) eg (hseq 7) hk
      (fun x g => .agg rfl (fun j d v hd hv => by
        have hj : j < 2 := (List.getElem?_eq_some_iff.1 hd).1
        obtain ⟨d', hd1, hd2, hd3⟩ := DL_VR (g := g) x j hj
        rw [hd1] at hd; cases hd
        have : v = (encL x)[j]! := by
          obtain ⟨h1, h2⟩ := Array.getElem?_eq_some_iff.1 hv
          have h3 : j < (encL x).length := h1
          rw [← h2]
          simp [h3]
        rw [this]; exact hd2)) (fun x => rfl) (fun x => rfl) (fun x => rfl) (fun _ x => rfl)
    refine collect_holds (n := 9) Tryz.func190 body190 (by kernel_rfl) (by kernel_rfl) (enters_of Tryz.func241 (by kernel_rfl) rfl) (this.mono ?_) ?_
    · rintro e w' ⟨v, xs, rfl, hx, hr⟩
      exact ⟨v, rfl, xs, hx, hr⟩
    · rintro e w' ⟨v, rfl, _⟩
      exact ⟨v, rfl⟩
  · rintro v w1 ⟨xs, hp, hr⟩
    have := sort_rowL hr (by rw [hp.length_eq]; exact hk)
    have e : sortB leL xs = sortB leL ks := sorted_eq leL_trans leL_total leL_antisymm (sortB_sorted leL_trans leL_total xs) ((sortB_perm xs).trans hp)
    rw [e] at this
    exact this

def decL (m : MapEntry) : Bool × List UInt8 := match m.key with
  | .agg A => match (A[0]? : Option Value), (A[1]? : Option Value) with
    | some (Value.bool b), some (Value.string s) => (b, s.data.toList)
    | _, _ => (false, [])
  | _ => (false, [])
def keyL : D × D → Option (Bool × List UInt8)
  | (.agg [.bool b, .str s], _) => some (b, s)
  | _ => none
def keysL : List (D × D) → Option (List (Bool × List UInt8))
  | [] => some []
  | e :: es => match keyL e, keysL es with
    | some k, some ks => some (k :: ks)
    | _, _ => none

def natSortedL : Native := fun _ args st => match args with
  | [.func f [] [.ptr b 0], .func o [] []] => if f == 192 && o == 141 then match st[b]? with
      | some (.cells (.map m :: _)) => match st[m]? with
        | some (.map es) => match keysL es with
          | some ks => if ks.length < 2 ^ 19 then some (rowD 2 st.length ((sortB leL ks).map DL), st ++ rowObj ((sortB leL ks).map DL), []) else none
          | none => none
        | _ => none
      | _ => none
    else none
  | _ => none

theorem natSortedL_keeps (cf : CallF) : Keeps (natSortedL cf) := by
  intro args st v st' W h
  unfold natSortedL at h
  repeat' split at h
  all_goals (first | cases h)
  all_goals exact Keeps_append

theorem keysL_spec {g : G} : ∀ {es : List (D × D)} {ks : List (Bool × List UInt8)} {M : List MapEntry}, keysL es = some ks → M.length = es.length →
    (∀ (j : Nat) (e : D × D) (m : MapEntry), es[j]? = some e → M[j]? = some m → VR g e.1 m.key) → (∀ m ∈ M, encA (decL m) = m.key) ∧ M.map decL = ks
  | [], ks, [], h, _, _ => by cases h; simp
  | [], ks, m :: M, h, hl, _ => by simp at hl
  | e :: es, ks, [], h, hl, _ => by simp at hl
  | e :: es, ks, m :: M, h, hl, hv => by
    unfold keysL at h
    split at h
    · rename_i k ks' h1 h2
      cases h
      obtain ⟨h3, h4⟩ := keysL_spec h2 (by simpa using hl) (fun j e' m' he hm => hv (j + 1) e' m' (by simpa using he) (by simpa using hm))
      have h5 := hv 0 e m rfl rfl
      obtain ⟨e1, e2⟩ := e
      unfold keyL at h1
      split at h1
      case h_2 => cases h1
      rename_i b s _ heq
      cases h1
      cases heq
      cases hk : m.key <;> rw [hk] at h5 <;> cases h5
      rename_i A hs' hv'
      have hsz : A.size = 2 := hs'
      have v0 := hv' 0 _ _ rfl (Array.getElem?_eq_getElem (by omega))
      have v1 := hv' 1 _ _ rfl (Array.getElem?_eq_getElem (by omega))
      have e0 : A[0]? = some (.bool b) := by rw [Array.getElem?_eq_getElem (by omega)]; generalize A[0] = x at v0; cases v0; rfl
      have e1 : A[1]? = some (encStr s) := by rw [Array.getElem?_eq_getElem (by omega)]; generalize A[1] = x at v1; rw [eq_encStr v1]
      have h6 : decL m = (b, s) := by simp [decL, hk, e0, e1, encStr]
      have hA : A = #[.bool b, encStr s] := by
        apply Array.ext_getElem?
        intro j
        match j with
        | 0 => rw [e0]; rfl
        | 1 => rw [e1]; rfl
        | j + 2 => rw [Array.getElem?_eq_none (by omega)]; rfl
      constructor
      · intro m' hm'
        rcases List.mem_cons.1 hm' with rfl | hm'
        · rw [h6, hk, hA]; rfl
        · exact h3 m' hm'
      · rw [List.map_cons, h4, h6]
    · cases h

theorem varOkL (x : Bool × List UInt8) : VarOk Tryz.prog 26 (encA x) := by
  have hi : ((Tryz.prog.info? 26).bind fun i => i.zero.map fun z => (i.size, z.cells.size)) = some (2, 2) := by kernel_rfl
  obtain ⟨i, h1, hi⟩ := Option.bind_eq_some_iff.1 hi
  obtain ⟨z, h2, hi⟩ := Option.map_eq_some_iff.1 hi
  simp only [Prod.mk.injEq] at hi
  have h3 : z.cells.size = i.size := by omega
  have h4 : i.size = 2 := hi.1
  exact ⟨i, z, _, h1, h2, h3, by kernel_rfl, by kernel_rfl, rfl, by rw [h4]; rfl, fun u hu => by simp [encL] at hu; rcases hu with rfl | rfl <;> rfl⟩

theorem iterL_seq {w : World} {c o b k : Nat} {M : Array MapEntry} (hm : w.cell? ⟨b, o, none⟩ = some (.map (some c))) (hM : w.heap[c]? = some (.map M k)) (hnd : (M.toList.map (·.born)).Nodup) (hlt : ∀ m ∈ M.toList, m.born < k)
    (hd : ∀ m ∈ M.toList, encA (decL m) = m.key) (n : Nat) : SeqGives Fence.wide n Tryz.prog 192 #[.pointer (some ⟨b, o, none⟩)] encA (fun xs => ∃ ms : List MapEntry, ms.Perm M.toList ∧ xs = ms.map decL) M.size w :=
  (keysA_stops hd Tryz.func192 body192 (by kernel_rfl) (by kernel_rfl) Tryz.underlying108 hm hM hnd hlt (fun m hm => by rw [← hd m hm]; exact varOkL _)).gives

theorem arr_two {α : Type} {A : Array α} (h : A.size = 2) : ∃ x y, A = #[x, y] := by
  refine ⟨A[0], A[1], ?_⟩
  apply Array.ext_getElem?
  intro j
  match j with
  | 0 => simp
  | 1 => simp
  | j + 2 => rw [Array.getElem?_eq_none (by omega)]; rfl

theorem natSortedL_just {β : Nat → Nat → Option Value} (cf : CallF) : Just Tryz.prog β 139 (natSortedL cf) := by
  intro args st v st' W h g w A hb hs hA
  unfold natSortedL at h
  split at h
  case h_2 => cases h
  rename_i f b fo
  split at h
  case isFalse => cases h
  rename_i hf
  simp only [Bool.and_eq_true, beq_iff_eq] at hf
  obtain ⟨rfl, rfl⟩ := hf
  split at h
  case h_2 => cases h
  rename_i m cs hst
  split at h
  case h_2 => cases h
  rename_i es hes
  split at h
  case h_2 => cases h
  rename_i ks hks
  split at h
  case isFalse => cases h
  rename_i hlen
  cases h
  obtain ⟨v0, v1, hA0⟩ : ∃ v0 v1, A = #[v0, v1] := by
    have := hA.size
    simp at this
    exact arr_two this
  subst hA0
  have hv0 := hA.at_ 0 _ _ rfl rfl
  have hv1 := hA.at_ 1 _ _ rfl rfl
  cases hv1 with
  | func ha hb' hva1 hvb1 =>
  rename_i A1 B1
  have hA1 : A1 = #[] := by simpa using ha
  have hB1 : B1 = #[] := by simpa using hb'
  subst hA1 hB1
  cases hv0 with
  | func ha hb' hva hvb =>
  rename_i A B
  have hA2 : A = #[] := by simpa using ha
  obtain ⟨vb, hB⟩ : ∃ vb, B = #[vb] := by simp at hb'; exact Array.size_eq_one_iff.1 hb'
  subst hA2 hB
  have hvb0 := hvb 0 _ _ rfl rfl
  cases hvb0 with
  | ptr hlb =>
  rename_i cb
  obtain ⟨o, ho, hr⟩ := hs.obj _ _ hlb
  rw [hst] at ho; cases ho
  obtain ⟨A, T, fr, hr⟩ := hr
  have hA0 : 0 < A.size := by have := hr.len; simp at this; omega
  have hvm := hr.at_ 0 _ _ rfl (Array.getElem?_eq_getElem hA0)
  generalize hx : A[0] = x at hvm
  cases hvm with
  | map hlm =>
  rename_i cm
  have hcell : w.cell? ⟨cb, 0, none⟩ = some (.map (some cm)) := by
    simp only [World.cell?, hr.heap]
    rw [Array.getElem?_eq_getElem hA0, hx]
    rfl
  obtain ⟨o, ho, hm⟩ := hs.obj _ _ hlm
  rw [hes] at ho; cases ho
  obtain ⟨M, k, hm⟩ := hm
  have hspec := keysL_spec (g := g) (M := M.toList) hks (by simp [hm.size]) (fun j e m he hm' => (hm.at_ j e m he (by simpa using hm')).1)
  have hsz : M.size = ks.length := by rw [← hspec.2]; simp
  have hperm : ∀ xs, (∃ ms : List MapEntry, ms.Perm M.toList ∧ xs = ms.map decL) → xs.Perm ks := by
    rintro xs ⟨ms, h1, rfl⟩
    rw [← hspec.2]
    exact h1.map _
  have hseq := fun n => iterL_seq hcell hm.heap hm.born hm.lt hspec.1 n
  have hfin := seq_sortedL (f := 192) (lb := #[.pointer (some ⟨cb, 0, none⟩)]) (w := w) (ks := ks) hlen (fun n => by
    have := hseq n
    rw [hsz] at this
    refine .of ?_
    intro l J W hW hJ hY h0
    refine (this l J W hW hJ hY h0).mono ?_
    rintro e W' ⟨h1, xs, h2, h3⟩
    exact ⟨h1, xs, hperm xs h2, h3⟩) (enters_of Tryz.func192 (by kernel_rfl) rfl)
  refine hfin.mono ?_
  rintro e w' ⟨v, rfl, hrow⟩
  obtain ⟨g', h1, h2, h3, h4⟩ := hrow.graft hs (by
    intro r hr d hd
    obtain ⟨x, _, rfl⟩ := List.mem_map.1 hr
    simp [DL] at hd
    rcases hd with rfl | rfl <;> rfl)
  exact ⟨v, g', rfl, h4, h1, h2, h3⟩
end Go.Vam

set_option linter.unusedSimpArgs false
set_option linter.unusedVariables false
namespace Go.Vam
open Go.Proofs Go.RowKit

section
variable {g : G} {st : St} {w : World}

theorem chunk_flat {sz : Nat} : ∀ (n : Nat) (l : List D), n * sz ≤ l.length → (chunk sz n l).flatten = l.take (n * sz) := by
  intro n
  induction n with
  | zero => intro l _; simp [chunk]
  | succ n ih =>
    intro l hl
    rw [Nat.add_mul] at hl
    rw [chunk, List.flatten_cons, ih _ (by simp; omega), Nat.add_mul, Nat.one_mul, Nat.add_comm (n * sz) sz, List.take_add]

/-- A slice's rows lie where it points. -/
theorem rows_reads (hs : Sim g st w) {d : D} {x : Value} {rows : List (List D)} (hx : VR g d x) (hr : rowsOf st d = some rows) (hns : ∀ s, d ≠ .str s) :
    ∃ p cap, x = .slice p rows.length cap ∧ rows.length ≤ cap ∧ (rows = [] ∨ ∃ c o, p = some ⟨c, o, none⟩ ∧ Reads g w c o rows.flatten) := by
  unfold rowsOf at hr
  split at hr
  · cases hr; cases hx
    exact ⟨none, 0, rfl, Nat.le_refl _, .inl rfl⟩
  · cases hr
    cases hx with
    | slNil => exact ⟨none, 0, rfl, Nat.le_refl _, .inl rfl⟩
    | sl hsz hI hv hcap hgr => exact ⟨_, _, rfl, hcap, .inr ⟨_, _, rfl, Reads.ofRows hs hsz hI hv⟩⟩
  · rename_i sz' id off len cap
    split at hr
    case h_3 => cases hr
    all_goals
      rename_i cs hst
      obtain ⟨rfl, hle⟩ := arrRows_some hr
      cases hx with
      | arr hl h1 h2 h3 =>
        rename_i cap' c
        have hro := (reads_obj hs hl (by first | exact .inl hst | exact .inr hst)).drop off
        rw [Nat.zero_add] at hro
        refine ⟨_, _, by rw [chunk_len], by rw [chunk_len]; omega, .inr ⟨_, _, rfl, ⟨fun j d hj => hro.at_ j d ?_⟩⟩⟩
        rw [chunk_flat len _ (by simp; omega), List.getElem?_take] at hj
        split at hj
        · exact hj
        · cases hj
  · exact absurd rfl (hns _)
  · cases hr

/-- Rows that are texts. -/
def textRows : List (List D) → Option (List (List UInt8))
  | [] => some []
  | [.str s] :: rows => (textRows rows).map (s :: ·)
  | _ => none

theorem textRows_eq : ∀ {rows : List (List D)} {ss : List (List UInt8)}, textRows rows = some ss → rows = ss.map fun s => [.str s]
  | [], ss, h => by cases h; rfl
  | r :: rows, ss, h => by
    unfold textRows at h
    split at h
    · rename_i heq; cases heq
    · rename_i s rows' heq
      cases heq
      cases h2 : textRows rows with
      | none => rw [h2] at h; cases h
      | some ss' =>
        rw [h2] at h
        cases h
        rw [textRows_eq h2]; rfl
    · cases h

/-- A slice of texts, out of its holder. -/
def textsOf (st : St) (d : D) : Option (List (List UInt8)) := match d with
  | .str _ => none
  | d => match rowsOf st d with
    | some rows => textRows rows
    | none => none

theorem texts_at (hs : Sim g st w) {d : D} {x : Value} {ss : List (List UInt8)} (hx : VR g d x) (h : textsOf st d = some ss) :
    ∃ p cap, x = .slice p ss.length cap ∧ ss.length ≤ cap ∧ (ss = [] ∨ ∃ c o, p = some ⟨c, o, none⟩ ∧ c < w.heap.size ∧ ∀ (j : Nat) (s : List UInt8), ss[j]? = some s → w.cell? ⟨c, o + j, none⟩ = some (encStr s)) := by
  unfold textsOf at h
  split at h
  · cases h
  rename_i d' hns
  split at h
  case h_2 => cases h
  rename_i rows hr
  have e := textRows_eq h
  obtain ⟨p, cap, rfl, h2, h3⟩ := rows_reads hs hx hr (fun s hd => hns s hd)
  have hl : rows.length = ss.length := by rw [e]; simp
  rw [hl] at h2 ⊢
  refine ⟨p, cap, rfl, h2, ?_⟩
  rcases h3 with h3 | ⟨c, o, rfl, h3⟩
  · left
    rw [h3] at hl
    exact List.eq_nil_of_length_eq_zero hl.symm
  · rw [e, rows_flat] at h3
    by_cases hn : ss = []
    · exact .inl hn
    · right
      have hcell : ∀ (j : Nat) (s : List UInt8), ss[j]? = some s → w.cell? ⟨c, o + j, none⟩ = some (encStr s) := by
        intro j s hj
        obtain ⟨v, h4, h5⟩ := h3.at_ j (.str s) (by rw [List.getElem?_map, hj]; rfl)
        rw [h4, eq_encStr h5]
      refine ⟨c, o, rfl, ?_, hcell⟩
      obtain ⟨s, l, rfl⟩ := List.exists_cons_of_ne_nil hn
      have := hcell 0 s rfl
      unfold World.cell? at this
      cases hh : w.heap[c]? with
      | none => simp [hh] at this
      | some _ => exact (Array.getElem?_eq_some_iff.1 hh).1

theorem still_below {w' : World} (hs : Sim g st w) (hb : Below w.heap.size w w') : Sim g st w' ∧ Step g st w [] g st w' :=
  hs.still hb.size hb.block hb.os hb.output
end

/-- Texts, one behind the other, with a text between. -/
def joinS (sep : List UInt8) : List (List UInt8) → List UInt8
  | [] => []
  | x :: l => match l with
    | [] => x
    | _ => x ++ (sep ++ joinS sep l)

theorem joinS_eq (sep : List UInt8) : ∀ l : List (List UInt8), Lib.join l sep = joinS sep l
  | [] => rfl
  | [x] => by simp [Lib.join, List.intercalate, joinS]
  | x :: y :: l => by
    have ih := joinS_eq sep (y :: l)
    show _ = x ++ (sep ++ joinS sep (y :: l))
    rw [← ih]
    simp [Lib.join, List.intercalate, List.intersperse]

def natJoin : Native := fun _ args st => match args with
  | [d, .str sep] => match textsOf st d with
    | some ss => if ss.length ≤ 2 ^ 40 ∧ (joinS sep ss).length ≤ 2 ^ 40 then some (.str (joinS sep ss), st, []) else none
    | none => none
  | _ => none

theorem natJoin_keeps (cf : CallF) : Keeps (natJoin cf) := by
  intro args st v st' W h
  unfold natJoin at h
  repeat' split at h
  all_goals (first | cases h)
  all_goals exact ⟨Nat.le_refl _, fun _ _ _ => rfl⟩

theorem arr_two' {α : Type} {A : Array α} (h : A.size = 2) : ∃ x y, A = #[x, y] := by
  refine ⟨A[0], A[1], ?_⟩
  apply Array.ext_getElem?
  intro j
  match j with
  | 0 => simp
  | 1 => simp
  | j + 2 => rw [Array.getElem?_eq_none (by omega)]; rfl

theorem natJoin_just {β : Nat → Nat → Option Value} (cf : CallF) : Just Tryz.prog β 304 (natJoin cf) := by
  intro args st v st' W h g w A hb hs hA
  unfold natJoin at h
  split at h
  case h_2 => cases h
  rename_i d sep
  split at h
  case h_2 => cases h
  rename_i ss hss
  split at h
  case isFalse => cases h
  rename_i hlen
  cases h
  obtain ⟨v0, v1, rfl⟩ := arr_two' (A := A) (by simpa using hA.size)
  have hv0 : VR g d v0 := hA.at_ 0 _ _ rfl rfl
  have hv1 : VR g (.str sep) v1 := hA.at_ 1 _ _ rfl rfl
  rw [eq_encStr hv1]
  obtain ⟨p, cap, rfl, h2, h3⟩ := texts_at hs hv0 hss
  have fin : ∀ w', Below w.heap.size w w' → ∃ r g', Ending.returned (encStr (joinS sep ss)) = .returned r ∧ VR g' (.str (joinS sep ss)) r ∧ Sim g' st w' ∧ Step g st w [] g' st w' ∧ Free g st g' := fun w' hb' => by
    obtain ⟨h4, h5⟩ := still_below hs hb'
    exact ⟨_, g, rfl, VR.str ⟨(joinS sep ss).toArray⟩, h4, h5, Free.refl _ _⟩
  rcases h3 with rfl | ⟨c, o, rfl, hc, hcell⟩
  · refine (Tryz.strings_Join_none p cap ⟨sep.toArray⟩ w).mono ?_
    rintro e w' ⟨rfl, rfl⟩
    exact fin _ (Below.refl _ _)
  · have hxs : (ss.map fun s => ByteArray.mk s.toArray).length = ss.length := by simp
    have hm : ((ss.map fun s => ByteArray.mk s.toArray).map (·.data.toList)) = ss := by simp [List.map_map, Function.comp_def]
    have := Tryz.strings_Join c o cap (ss.map fun s => ⟨s.toArray⟩) ⟨sep.toArray⟩ w (fun j x hx => by
      rw [List.getElem?_map] at hx
      cases hj : ss[j]? with
      | none => rw [hj] at hx; cases hx
      | some s =>
        rw [hj] at hx
        cases hx
        exact hcell j s hj) hc (by rw [hxs]; omega) (by rw [hxs]; exact h2) (by
      rw [hm, joinS_eq]; show (joinS sep ss).length ≤ _; omega)
    rw [hxs, hm, joinS_eq] at this
    refine this.mono ?_
    rintro e w' ⟨rfl, hb'⟩
    exact fin _ hb'
end Go.Vam

set_option linter.unusedSimpArgs false
set_option linter.unusedVariables false
namespace Go.Proofs
open Go.Shelf Go.RowKit Go.Lib Go.Sort Go.Vam
theorem Tryz.lays166 : Lays.n166 Tryz.prog Tryz.lays156_ren := { Tryz.lays156 with }
theorem Tryz.write324 (B b : Nat) (bs : List Value) (s : ByteArray) (w : World) (h : Lib.IsBuilderF 320 5 B b bs w) (hlen : bs.length + s.size ≤ 140737488355328) (hBw : B ≤ w.heap.size) :
    Calls Tryz.prog 324 #[.pointer (some ⟨b, 0, none⟩), .string s] w fun e w' => e = .returned (.tuple #[.int .i64 s.size, .nilIface]) ∧ (Lib.BuilderAtF 320 5 B b (.pointer (some ⟨b, 0, none⟩)) (bs ++ Lib.strCells s) w' ∧ Below B w w' ∧ Lib.OthersKept 5 (some b) w w') :=
  Any.Builder_WriteString_k Tryz.lays166 Tryz.Builder_Extra_156 B b bs s w h hlen hBw

/-- What each text gives, one behind the other. -/
def catS (F : List UInt8 → List UInt8) : List (List UInt8) → List UInt8
  | [] => []
  | x :: l => F x ++ catS F l
theorem catS_take {F : List UInt8 → List UInt8} : ∀ {ss : List (List UInt8)} {k : Nat} {s : List UInt8}, ss[k]? = some s → catS F (ss.take (k + 1)) = catS F (ss.take k) ++ F s
  | [], k, s, h => by simp at h
  | x :: l, 0, s, h => by simp at h; subst h; simp [catS]
  | x :: l, k + 1, s, h => by
    have ih := catS_take (F := F) (ss := l) (k := k) (s := s) (by simpa using h)
    simp only [List.take_succ_cons, catS] at ih ⊢
    rw [ih, List.append_assoc]
theorem catS_le {F : List UInt8 → List UInt8} : ∀ (ss : List (List UInt8)) (k : Nat), (catS F (ss.take k)).length ≤ (catS F ss).length
  | [], k => by simp [catS]
  | x :: l, 0 => by simp [catS]
  | x :: l, k + 1 => by
    have ih := catS_le (F := F) l k
    simp only [List.take_succ_cons, catS, List.length_append]
    omega
theorem strCells_enc (l : List UInt8) : Lib.strCells ⟨l.toArray⟩ = Lib.byteCells l := by
  simp [Lib.strCells, Lib.byteCells]
def lineF (s : List UInt8) : List UInt8 := s ++ [10]
set_option maxHeartbeats 4000000 in
set_option maxRecDepth 1000000 in
theorem Tryz.lines302 (p : Option Addr) (ss : List (List UInt8)) (cap : Nat) (w : World) (hn : ss.length < 2 ^ 40) (hlen : (catS lineF ss).length < 2 ^ 40)
    (hp : ss = [] ∨ ∃ c o, p = some ⟨c, o, none⟩ ∧ c < w.heap.size ∧ ∀ (j : Nat) (s : List UInt8), ss[j]? = some s → w.cell? ⟨c, o + j, none⟩ = some (encStr s)) :
    Calls Tryz.prog 302 #[.slice p ss.length cap] w fun e w' => e = .returned (encStr (catS lineF ss)) ∧ Below w.heap.size w w' := by
  go_enter Tryz.func302, Tryz.ntmps302
  go_wp2
  go_loopw [8] (fun i wr => ∃ k : Nat, i = .int .i64 k ∧ k ≤ ss.length ∧ Lib.IsBuilderF 320 5 w.heap.size w.heap.size (Lib.byteCells (catS lineF (ss.take k))) wr ∧ Below w.heap.size w wr) (fun i wr => ss.length - (intOf i).toNat)
  case atStart =>
    exact ⟨0, rfl, by omega, Lib.IsBuilderF.of (Lib.fresh_isBuilder 320 5 w), (Below.refl _ w).alloc (Nat.le_refl _) _⟩
  case round =>
    obtain ⟨k, rfl, hk, hI, hbw⟩ := hrel
    have hsz := hbw.size
    by_cases hlt : k < ss.length
    · obtain ⟨s, hs⟩ : ∃ s, ss[k]? = some s := ⟨_, List.getElem?_eq_getElem hlt⟩
      rcases hp with rfl | ⟨c, o, rfl, hc, hcell⟩
      · simp at hlt
      have hcl : wr.cell? ⟨c, o + k, none⟩ = some (encStr s) := by rw [← hcell k s hs]; exact World.cell?_of_block (hbw.block c hc)
      have hcat := catS_take (F := lineF) hs
      have hle := catS_le (F := lineF) ss (k + 1)
      rw [hcat, List.length_append] at hle
      have hpre : (catS lineF (ss.take k)).length + (lineF s).length < 2 ^ 40 := by omega
      have hl : (k : Int) < ss.length := by omega
      have hfl : (lineF s).length = s.length + 1 := by simp [lineF]
      have h9 : ¬ 9223372036854775807 < s.length + 1 := by omega
      go_wp2_with (go_at_call 324; refine (Tryz.write324 w.heap.size w.heap.size (Lib.byteCells (catS lineF (ss.take k))) ⟨(lineF s).toArray⟩ _ hI (by rw [Lib.byteCells_length]; show _ + (lineF s).length ≤ _; omega) hsz).mono ?_)
      rintro e W1 ⟨rfl, h1, b1, _⟩
      go_wp2
      go_roundw
      case rel =>
        refine ⟨k + 1, by go_num, by omega, ?_, hbw.trans b1⟩
        rw [hcat, Lib.byteCells_append, ← strCells_enc (lineF s)]
        exact .inr h1
      case measure => simp [intOf]; omega
    · have hke : k = ss.length := by omega
      subst hke
      rw [List.take_length] at hI
      go_wp2_with (go_at_call 325; refine (Tryz.Builder_String_any_k w.heap.size w.heap.size _ _ hI hsz).mono ?_)
      rintro e W1 ⟨rfl, _, b1, _⟩
      go_wp2
      go_ret
      exact ⟨rfl, hbw.trans b1⟩

/-- A frame that says nothing of the tape. -/
structure Fr (B : Nat) (w w' : World) : Prop where
  os : w'.os = w.os
  output : w'.output = w.output
  size : w.heap.size ≤ w'.heap.size
  block : ∀ k, k < B → w'.heap[k]? = w.heap[k]?
theorem Fr.trans {B : Nat} {a b c : World} (h : Fr B a b) (k : Fr B b c) : Fr B a c :=
  ⟨k.os.trans h.os, k.output.trans h.output, Nat.le_trans h.size k.size, fun i hi => (k.block i hi).trans (h.block i hi)⟩
theorem Fr.of {B : Nat} {w w' : World} (h : Below B w w') : Fr B w w' := ⟨h.os, h.output, h.size, h.block⟩
theorem Fr.less {B B' : Nat} {w w' : World} (h : Fr B w w') (hb : B' ≤ B) : Fr B' w w' := ⟨h.os, h.output, h.size, fun k hk => h.block k (by omega)⟩
theorem builderAt_fr {T e : TypeId} {B b : Nat} {p : Value} {bs : List Value} {W W' : World} (h : Lib.BuilderAtF T e B b p bs W) (hf : Fr W.heap.size W W') : Lib.BuilderAtF T e B b p bs W' := by
  have hlt := h.lt
  obtain ⟨hB, v, hv, hown, hne⟩ := h
  have hk := hown.kept (row := none) (w' := { W' with tape := W.tape }) ⟨hf.os, rfl, hf.output, hf.size, fun k hk _ => hf.block k hk⟩ (Classical.em _)
  exact ⟨hB, v, (hf.block b hlt).trans hv, hk, hne⟩
theorem isBuilder_fr {T e : TypeId} {B b : Nat} {bs : List Value} {W W' : World} (h : Lib.IsBuilderF T e B b bs W) (hf : Fr W.heap.size W W') : Lib.IsBuilderF T e B b bs W' :=
  h.elim (fun x => .inl (builderAt_fr x hf)) (fun x => .inr (builderAt_fr x hf))

def putF (num : Nat → List UInt8) (s : List UInt8) : List UInt8 := num s.length ++ ([58] ++ s)
set_option maxHeartbeats 800000 in
set_option maxRecDepth 1000000 in
theorem Tryz.put338 (num : Nat → List UInt8) (p : Option Addr) (ss : List (List UInt8)) (cap : Nat) (w : World) (hn : ss.length < 2 ^ 40) (hlen : (catS (putF num) ss).length < 2 ^ 40)
    (hp : ss = [] ∨ ∃ c o, p = some ⟨c, o, none⟩ ∧ c < w.heap.size ∧ ∀ (j : Nat) (s : List UInt8), ss[j]? = some s → w.cell? ⟨c, o + j, none⟩ = some (encStr s))
    (hnum : ∀ (s : List UInt8) (wr : World), s ∈ ss → Fr w.heap.size w wr → Calls Tryz.prog 37 #[.int .i64 s.length] wr fun e w' => e = .returned (encStr (num s.length)) ∧ Fr wr.heap.size wr w') :
    Calls Tryz.prog 338 #[.slice p ss.length cap] w fun e w' => e = .returned (encStr (catS (putF num) ss)) ∧ Fr w.heap.size w w' := by
  go_enter Tryz.func338, Tryz.ntmps338
  go_wp2
  go_loopw [8] (fun i wr => ∃ k : Nat, i = .int .i64 k ∧ k ≤ ss.length ∧ Lib.IsBuilderF 320 5 w.heap.size w.heap.size (Lib.byteCells (catS (putF num) (ss.take k))) wr ∧ Fr w.heap.size w wr) (fun i wr => ss.length - (intOf i).toNat)
  case atStart =>
    exact ⟨0, rfl, by omega, Lib.IsBuilderF.of (Lib.fresh_isBuilder 320 5 w), Fr.of ((Below.refl _ w).alloc (Nat.le_refl _) _)⟩
  case round =>
    obtain ⟨k, rfl, hk, hI, hbw⟩ := hrel
    have hsz := hbw.size
    by_cases hlt : k < ss.length
    · obtain ⟨s, hs⟩ : ∃ s, ss[k]? = some s := ⟨_, List.getElem?_eq_getElem hlt⟩
      rcases hp with rfl | ⟨c, o, rfl, hc, hcell⟩
      · simp at hlt
      have hcl : wr.cell? ⟨c, o + k, none⟩ = some (encStr s) := by rw [← hcell k s hs]; exact World.cell?_of_block (hbw.block c hc)
      have hcat := catS_take (F := putF num) hs
      have hle := catS_le (F := putF num) ss (k + 1)
      rw [hcat, List.length_append] at hle
      have hl : (k : Int) < ss.length := by omega
      have hfl : (putF num s).length = (num s.length).length + 1 + s.length := by simp [putF]; omega
      have h8 : ¬ 9223372036854775807 < (num s.length).length + 1 := by omega
      have h9 : ¬ 9223372036854775807 < (num s.length).length + 1 + s.length := by omega
      have hcon := hnum s wr (List.mem_of_getElem? hs) hbw
      go_wp2_with (go_at_call 37; refine hcon.mono ?_)
      rintro e W1 ⟨rfl, f1⟩
      have hI1 := isBuilder_fr hI f1
      have hb1 := hbw.trans (f1.less hsz)
      have hsz1 := hb1.size
      have hsum : ((⟨(num s.length).toArray⟩ ++ ⟨#[58]⟩) ++ ⟨s.toArray⟩ : ByteArray) = ⟨(putF num s).toArray⟩ := by
        apply ByteArray.ext
        simp [putF]
      have hwr := fun W hI1 hsz1 => Tryz.write324 w.heap.size w.heap.size (Lib.byteCells (catS (putF num) (ss.take k))) ⟨(putF num s).toArray⟩ W hI1 (by rw [Lib.byteCells_length]; show _ + (putF num s).length ≤ _; omega) hsz1
      rw [← hsum] at hwr
      have hst : Lib.strCells ((⟨(num s.length).toArray⟩ ++ ⟨#[58]⟩) ++ ⟨s.toArray⟩ : ByteArray) = Lib.byteCells (putF num s) := by rw [hsum, strCells_enc]
      rw [hst] at hwr
      clear hsum hst
      generalize putF num s = pf at *
      go_wp2_with (go_at_call 324; refine (hwr _ hI1 hsz1).mono ?_)
      rintro e W2 ⟨rfl, h1, b1, _⟩
      go_wp2
      go_roundw
      case rel =>
        refine ⟨k + 1, by go_num, by omega, ?_, hb1.trans (Fr.of b1)⟩
        rw [hcat, Lib.byteCells_append]
        exact .inr h1
      case measure => simp [intOf]; omega
    · have hke : k = ss.length := by omega
      subst hke
      rw [List.take_length] at hI
      go_wp2_with (go_at_call 325; refine (Tryz.Builder_String_any_k w.heap.size w.heap.size _ _ hI hsz).mono ?_)
      rintro e W1 ⟨rfl, _, b1, _⟩
      go_wp2
      go_ret
      exact ⟨rfl, hbw.trans (Fr.of b1)⟩
end Go.Proofs

namespace Go.Vam
open Go.Proofs Go.RowKit
section
variable {g : G} {st : St} {w : World}
theorem still_fr {w' : World} (hs : Sim g st w) (hb : Fr w.heap.size w w') : Sim g st w' ∧ Step g st w [] g st w' :=
  hs.still hb.size hb.block hb.os hb.output
theorem step_fr {g' : G} {st' : St} {w' : World} (h : Step g st w [] g' st' w') : Fr w.heap.size w w' :=
  ⟨h.os, h.out, h.size, fun k hk => h.fr k hk fun id hid => by cases hid⟩
end
theorem arr_one' {α : Type} {A : Array α} (h : A.size = 1) : ∃ x, A = #[x] := Array.size_eq_one_iff.1 h

def natLines : Native := fun _ args st => match args with
  | [d] => match textsOf st d with
    | some ss => if ss.length < 2 ^ 40 ∧ (catS lineF ss).length < 2 ^ 40 then some (.str (catS lineF ss), st, []) else none
    | none => none
  | _ => none
theorem natLines_keeps (cf : CallF) : Keeps (natLines cf) := by
  intro args st v st' W h
  unfold natLines at h
  repeat' split at h
  all_goals (first | cases h)
  all_goals exact ⟨Nat.le_refl _, fun _ _ _ => rfl⟩
theorem natLines_just {β : Nat → Nat → Option Value} (cf : CallF) : Just Tryz.prog β 302 (natLines cf) := by
  intro args st v st' W h g w A hb hs hA
  unfold natLines at h
  split at h
  case h_2 => cases h
  rename_i d
  split at h
  case h_2 => cases h
  rename_i ss hss
  split at h
  case isFalse => cases h
  rename_i hlen
  cases h
  obtain ⟨v0, rfl⟩ := arr_one' (A := A) (by simpa using hA.size)
  have hv0 : VR g d v0 := hA.at_ 0 _ _ rfl rfl
  obtain ⟨p, cap, rfl, h2, h3⟩ := texts_at hs hv0 hss
  refine (Tryz.lines302 p ss cap w hlen.1 hlen.2 h3).mono ?_
  rintro e w' ⟨rfl, hb'⟩
  obtain ⟨h4, h5⟩ := still_below hs hb'
  exact ⟨_, g, rfl, VR.str ⟨(catS lineF ss).toArray⟩, h4, h5, Free.refl _ _⟩

/-- A number's text, by the program's own run. -/
def numBy (cf : CallF) (st : St) (n : Nat) : Option (List UInt8) := match cf 37 [.int .i64 n] st with
  | some (.str s, _, []) => some s
  | _ => none
def numOr (cf : CallF) (st : St) (n : Nat) : List UInt8 := match numBy cf st n with
  | some s => s
  | none => []
def natPut : Native := fun cf args st => match args with
  | [d] => match textsOf st d with
    | some ss => if ss.all (fun s => (numBy cf st s.length).isSome) then if ss.length < 2 ^ 40 ∧ (catS (putF (numOr cf st)) ss).length < 2 ^ 40 then some (.str (catS (putF (numOr cf st)) ss), st, []) else none else none
    | none => none
  | _ => none
theorem natPut_keeps (cf : CallF) : Keeps (natPut cf) := by
  intro args st v st' W h
  unfold natPut at h
  repeat' split at h
  all_goals (first | cases h)
  all_goals exact ⟨Nat.le_refl _, fun _ _ _ => rfl⟩
theorem natPut_just {β : Nat → Nat → Option Value} (cf : CallF) (hcf : Just Tryz.prog β 37 (cf 37)) : Just Tryz.prog β 338 (natPut cf) := by
  intro args st v st' W h g w A hb hs hA
  unfold natPut at h
  split at h
  case h_2 => cases h
  rename_i d
  split at h
  case h_2 => cases h
  rename_i ss hss
  split at h
  case isFalse => cases h
  rename_i hall
  split at h
  case isFalse => cases h
  rename_i hlen
  cases h
  obtain ⟨v0, rfl⟩ := arr_one' (A := A) (by simpa using hA.size)
  have hv0 : VR g d v0 := hA.at_ 0 _ _ rfl rfl
  obtain ⟨p, cap, rfl, h2, h3⟩ := texts_at hs hv0 hss
  refine (Tryz.put338 (numOr cf st) p ss cap w hlen.1 hlen.2 h3 ?_).mono ?_
  · intro s wr hsm hfr
    have hok := List.all_eq_true.1 hall s hsm
    unfold numOr
    cases hnb : numBy cf st s.length with
    | none => rw [hnb] at hok; cases hok
    | some t =>
      dsimp only
      unfold numBy at hnb
      split at hnb
      case h_2 => cases hnb
      rename_i t' st1 hc
      cases hnb
      obtain ⟨hsr, _⟩ := still_fr hs hfr
      refine (hcf _ _ _ _ _ hc g wr #[.int .i64 s.length] hb hsr ⟨rfl, fun j x u hj hu => ?_⟩).mono ?_
      · match j with
        | 0 => cases hj; cases hu; exact .int _ _
        | j + 1 => simp at hj
      · rintro e w' ⟨r, g', rfl, hv, _, hst, _⟩
        exact ⟨by rw [eq_encStr hv], step_fr hst⟩
  · rintro e w' ⟨rfl, hb'⟩
    obtain ⟨h4, h5⟩ := still_fr hs hb'
    exact ⟨_, g, rfl, VR.str ⟨(catS (putF (numOr cf st)) ss).toArray⟩, h4, h5, Free.refl _ _⟩
end Go.Vam
