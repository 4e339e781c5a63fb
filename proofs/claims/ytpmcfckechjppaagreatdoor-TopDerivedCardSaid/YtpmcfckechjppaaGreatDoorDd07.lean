/- Made by a program of this seat's own (shake.py, merge.py): what the claim leans on: Shelf, Pieces, Iter, IterOne, Parse, Texts, TagS. -/
import Derived.Test.YtpmcfckechjppaaGreatDoorDd05
import Derived.Shelf.Strings.OnBuilder
import Derived.Shelf.Strings.Search3
import Derived.Shelf.Strings.LastIndex
import Derived.Shelf.Strings.Split
import Derived.Shelf.Slices.Turned
import Derived.Shelf.Slices.Clone
import Derived.Shelf.Slices.In.SortNone
import Derived.Ground.SlgfProg
import Derived.Shelf.SlicesE.DeleteFunc
import Derived.Test.YtpmcfckechjppaaGreatDoorProg
import Derived.Shelf.Abstract
import Derived.Shelf.RegionOpen
import Derived.OwnWalkIn
import Derived.TacticsInMore
import Derived.LoopNIn
import Derived.LoopIn
import Derived.Scope
import Derived.RangeFuncNested
import Derived.RecoverIn
import Derived.RegionIn
import Derived.DefersIn
import Derived.Maps.OwnIn
set_option linter.unusedVariables false
set_option linter.unusedSimpArgs false
set_option maxRecDepth 100000
set_option maxHeartbeats 8000000
namespace Go.Proofs
open Go.Shelf
def Tryz.z4l : Go.Shelf.Ren := ⟨fun | 156 => 147 | 165 => 194 | 166 => 195 | 169 => 196 | 240 => 227 | 241 => 228 | 276 => 267 | 277 => 268 | n => n, fun | 31 => 26 | 9 => 9 | 3 => 3 | 4 => 4 | 0 => 0 | 20 => 20 | 72 => 219 | 76 => 221 | 70 => 217 | 37 => 38 | 75 => 55 | 127 => 253 | 164 => 149 | 5 => 5 | 80 => 79 | n => n, fun | n => n⟩
theorem Tryz.v8s : Go.Proofs.Lays.n156 Tryz.prog Tryz.z4l := {
 mixed := by kernel_rfl
 f156 := Tryz.func147.trans (congrArg some (by kernel_rfl))
 f165 := Tryz.func194.trans (congrArg some (by kernel_rfl))
 f166 := Tryz.func195.trans (congrArg some (by kernel_rfl))
 f169 := Tryz.func196.trans (congrArg some (by kernel_rfl))
 f240 := Tryz.func227.trans (congrArg some (by kernel_rfl))
 f241 := Tryz.func228.trans (congrArg some (by kernel_rfl))
 f276 := Tryz.func267.trans (congrArg some (by kernel_rfl))
 f277 := Tryz.func268.trans (congrArg some (by kernel_rfl))
 t0 := Tryz.underlying0
 a0 := Tryz.isAgg0
 z0 := Tryz.sizeOf0
 v0 := Tryz.zeroValue0
 t3 := Tryz.underlying3
 a3 := Tryz.isAgg3
 z3 := Tryz.sizeOf3
 v3 := Tryz.zeroValue3
 t4 := Tryz.underlying4
 a4 := Tryz.isAgg4
 z4 := Tryz.sizeOf4
 v4 := Tryz.zeroValue4
 t9 := Tryz.underlying9
 a9 := Tryz.isAgg9
 z9 := Tryz.sizeOf9
 v9 := Tryz.zeroValue9
 t20 := Tryz.underlying20
 a20 := Tryz.isAgg20
 z20 := Tryz.sizeOf20
 v20 := Tryz.zeroValue20
 t31 := Tryz.underlying26
 a31 := Tryz.isAgg26
 z31 := Tryz.sizeOf26
 v31 := Tryz.zeroValue26
 t37 := Tryz.underlying38
 a37 := Tryz.isAgg38
 z37 := Tryz.sizeOf38
 v37 := Tryz.zeroValue38
 t70 := Tryz.underlying217
 a70 := Tryz.isAgg217
 z70 := Tryz.sizeOf217
 v70 := Tryz.zeroValue217
 t72 := Tryz.underlying219
 a72 := Tryz.isAgg219
 z72 := Tryz.sizeOf219
 v72 := Tryz.zeroValue219
 t75 := Tryz.underlying55
 a75 := Tryz.isAgg55
 z75 := Tryz.sizeOf55
 v75 := Tryz.zeroValue55
 t76 := Tryz.underlying221
 a76 := Tryz.isAgg221
 z76 := Tryz.sizeOf221
 v76 := Tryz.zeroValue221
 t127 := Tryz.underlying253
 a127 := Tryz.isAgg253
 z127 := Tryz.sizeOf253
 v127 := Tryz.zeroValue253
 t164 := Tryz.underlying149
 a164 := Tryz.isAgg149
 z164 := Tryz.sizeOf149
 v164 := Tryz.zeroValue149 }
theorem Tryz.q7j : Builder.Extra Tryz.prog Tryz.z4l := {
 sizeBuilder := by kernel_rfl
 liesBuilder := by kernel_rfl
 t5 := Tryz.underlying5
 a5 := Tryz.isAgg5
 z5 := Tryz.sizeOf5
 v5 := Tryz.zeroValue5
 infoByte := by kernel_rfl
 cellsByte := by kernel_rfl
 sizeByte := by kernel_rfl
 neB5 := by decide }
open Go.RowKit in
theorem Tryz.strings_Join_none (a : Option Addr) (c : Nat) (sep : ByteArray) (w : World) :
 Calls Tryz.prog 147 #[.slice a 0 c, .string sep] w fun e w' => e = .returned (.string ⟨#[]⟩) ∧ w' = w := Any.strings_Join_none Tryz.v8s Tryz.q7j a c sep w
open Go.RowKit in
theorem Tryz.strings_Join (bk o c : Nat) (xs : List ByteArray) (sep : ByteArray) (w : World) (hcells : ∀ (j : Nat) x, xs[j]? = some x → w.cell? ⟨bk, o + j, none⟩ = some (.string x)) (hbk : bk < w.heap.size) (hN : xs.length ≤ 140737488355328) (hcap : xs.length ≤ c) (hlen : (Lib.join (xs.map (·.data.toList)) sep.data.toList).length ≤ 140737488355328) :
 Calls Tryz.prog 147 #[.slice (some ⟨bk, o, none⟩) xs.length c, .string sep] w fun e w' => e = .returned (.string ⟨(Lib.join (xs.map (·.data.toList)) sep.data.toList).toArray⟩) ∧ Below w.heap.size w w' := Any.strings_Join Tryz.v8s Tryz.q7j bk o c xs sep w hcells hbk hN hcap hlen
def Tryz.v1r : Go.Shelf.Ren := ⟨fun | 143 => 122 | 219 => 174 | 217 => 220 | 225 => 221 | 224 => 222 | 267 => 223 | 266 => 264 | 314 => 265 | n => n, fun | 9 => 9 | 3 => 3 | 4 => 4 | 5 => 5 | 46 => 197 | 146 => 281 | 51 => 280 | n => n, fun | 1 => 2 | n => n⟩
theorem Tryz.k7d : Go.Proofs.Lays.n143 Tryz.prog Tryz.v1r := {
 mixed := by kernel_rfl
 f143 := Tryz.func122.trans (congrArg some (by kernel_rfl))
 f217 := Tryz.func220.trans (congrArg some (by kernel_rfl))
 f219 := Tryz.func174.trans (congrArg some (by kernel_rfl))
 f224 := Tryz.func222.trans (congrArg some (by kernel_rfl))
 f225 := Tryz.func221.trans (congrArg some (by kernel_rfl))
 f266 := Tryz.func264.trans (congrArg some (by kernel_rfl))
 f267 := Tryz.func223.trans (congrArg some (by kernel_rfl))
 f314 := Tryz.func265.trans (congrArg some (by kernel_rfl))
 t3 := Tryz.underlying3
 a3 := Tryz.isAgg3
 z3 := Tryz.sizeOf3
 v3 := Tryz.zeroValue3
 t4 := Tryz.underlying4
 a4 := Tryz.isAgg4
 z4 := Tryz.sizeOf4
 v4 := Tryz.zeroValue4
 t5 := Tryz.underlying5
 a5 := Tryz.isAgg5
 z5 := Tryz.sizeOf5
 v5 := Tryz.zeroValue5
 t9 := Tryz.underlying9
 a9 := Tryz.isAgg9
 z9 := Tryz.sizeOf9
 v9 := Tryz.zeroValue9
 t46 := Tryz.underlying197
 a46 := Tryz.isAgg197
 z46 := Tryz.sizeOf197
 v46 := Tryz.zeroValue197
 t51 := Tryz.underlying280
 a51 := Tryz.isAgg280
 z51 := Tryz.sizeOf280
 v51 := Tryz.zeroValue280
 t146 := Tryz.underlying281
 a146 := Tryz.isAgg281
 z146 := Tryz.sizeOf281
 v146 := Tryz.zeroValue281
 g1 := by kernel_rfl }
open Go.RowKit Go.Lib in
theorem Tryz.strings_Index_one (s : ByteArray) (c : UInt8) (w : World) :
 Calls Tryz.prog 122 #[.string s, .string ⟨#[c]⟩] w fun e w' => e = .returned (.int .i64 (Lib.indexByte s.data.toList c)) ∧ w' = w := Any.strings_Index_one Tryz.k7d s c w
def Tryz.v2a : Go.Shelf.Ren := ⟨fun | 146 => 89 | 221 => 160 | 268 => 198 | 138 => 199 | 143 => 122 | 195 => 231 | 197 => 232 | 218 => 233 | 219 => 174 | 260 => 270 | 217 => 220 | 225 => 221 | 224 => 222 | 267 => 223 | 266 => 264 | 314 => 265 | n => n, fun | 9 => 9 | 31 => 26 | 3 => 3 | 4 => 4 | 0 => 0 | 105 => 254 | 21 => 21 | 5 => 5 | 46 => 197 | 119 => 318 | 139 => 321 | 138 => 320 | 146 => 281 | 51 => 280 | n => n, fun | 1 => 2 | 3 => 3 | 4 => 4 | n => n⟩
theorem Tryz.k5n : Go.Proofs.Lays.n146 Tryz.prog Tryz.v2a := {
 mixed := by kernel_rfl
 f138 := Tryz.func199.trans (congrArg some (by kernel_rfl))
 f143 := Tryz.func122.trans (congrArg some (by kernel_rfl))
 f146 := Tryz.func89.trans (congrArg some (by kernel_rfl))
 f195 := Tryz.func231.trans (congrArg some (by kernel_rfl))
 f197 := Tryz.func232.trans (congrArg some (by kernel_rfl))
 f217 := Tryz.func220.trans (congrArg some (by kernel_rfl))
 f218 := Tryz.func233.trans (congrArg some (by kernel_rfl))
 f219 := Tryz.func174.trans (congrArg some (by kernel_rfl))
 f221 := Tryz.func160.trans (congrArg some (by kernel_rfl))
 f224 := Tryz.func222.trans (congrArg some (by kernel_rfl))
 f225 := Tryz.func221.trans (congrArg some (by kernel_rfl))
 f260 := Tryz.func270.trans (congrArg some (by kernel_rfl))
 f266 := Tryz.func264.trans (congrArg some (by kernel_rfl))
 f267 := Tryz.func223.trans (congrArg some (by kernel_rfl))
 f268 := Tryz.func198.trans (congrArg some (by kernel_rfl))
 f314 := Tryz.func265.trans (congrArg some (by kernel_rfl))
 t0 := Tryz.underlying0
 a0 := Tryz.isAgg0
 z0 := Tryz.sizeOf0
 v0 := Tryz.zeroValue0
 t3 := Tryz.underlying3
 a3 := Tryz.isAgg3
 z3 := Tryz.sizeOf3
 v3 := Tryz.zeroValue3
 t4 := Tryz.underlying4
 a4 := Tryz.isAgg4
 z4 := Tryz.sizeOf4
 v4 := Tryz.zeroValue4
 t5 := Tryz.underlying5
 a5 := Tryz.isAgg5
 z5 := Tryz.sizeOf5
 v5 := Tryz.zeroValue5
 t9 := Tryz.underlying9
 a9 := Tryz.isAgg9
 z9 := Tryz.sizeOf9
 v9 := Tryz.zeroValue9
 t21 := Tryz.underlying21
 a21 := Tryz.isAgg21
 z21 := Tryz.sizeOf21
 v21 := Tryz.zeroValue21
 t31 := Tryz.underlying26
 a31 := Tryz.isAgg26
 z31 := Tryz.sizeOf26
 v31 := Tryz.zeroValue26
 t46 := Tryz.underlying197
 a46 := Tryz.isAgg197
 z46 := Tryz.sizeOf197
 v46 := Tryz.zeroValue197
 t51 := Tryz.underlying280
 a51 := Tryz.isAgg280
 z51 := Tryz.sizeOf280
 v51 := Tryz.zeroValue280
 t105 := Tryz.underlying254
 a105 := Tryz.isAgg254
 z105 := Tryz.sizeOf254
 v105 := Tryz.zeroValue254
 t119 := Tryz.underlying318
 a119 := Tryz.isAgg318
 z119 := Tryz.sizeOf318
 t138 := Tryz.underlying320
 a138 := Tryz.isAgg320
 z138 := Tryz.sizeOf320
 v138 := Tryz.zeroValue320
 t139 := Tryz.underlying321
 a139 := Tryz.isAgg321
 z139 := Tryz.sizeOf321
 v139 := Tryz.zeroValue321
 t146 := Tryz.underlying281
 a146 := Tryz.isAgg281
 z146 := Tryz.sizeOf281
 v146 := Tryz.zeroValue281
 g1 := by kernel_rfl
 g3 := by kernel_rfl
 g4 := by kernel_rfl }
open Go.RowKit Go.Lib in
theorem Tryz.strings_Split (s sep : ByteArray) (m : Int) (w : World) (hs : s.size < 4294967281) (hm : w.cell? ⟨2, 0, none⟩ = some (.int .i64 m)) (h1 : 1 ≤ sep.size) :
 Calls Tryz.prog 89 #[.string s, .string sep] w fun e w' =>
  e = .returned (.slice (some ⟨w.heap.size, 0, none⟩) (Lib.countB s sep + 1) (Lib.countB s sep + 1)) ∧ w' = w.alloc (.cells ((Lib.splitB sep 0 (Lib.countB s sep) s).map Value.string).toArray 9) := Any.strings_Split Tryz.k5n (by kernel_rfl) s sep m w hs hm h1
def Tryz.v1u : Go.Shelf.Ren := ⟨fun | 109 => 169 | n => n, fun | 31 => 26 | 9 => 9 | 3 => 3 | 0 => 0 | 4 => 4 | n => n, fun | n => n⟩
theorem Tryz.k7e : Go.Proofs.Lays.n109 Tryz.prog Tryz.v1u := {
 mixed := by kernel_rfl
 f109 := Tryz.func169.trans (congrArg some (by kernel_rfl))
 t0 := Tryz.underlying0
 a0 := Tryz.isAgg0
 z0 := Tryz.sizeOf0
 v0 := Tryz.zeroValue0
 t3 := Tryz.underlying3
 a3 := Tryz.isAgg3
 z3 := Tryz.sizeOf3
 v3 := Tryz.zeroValue3
 t4 := Tryz.underlying4
 a4 := Tryz.isAgg4
 z4 := Tryz.sizeOf4
 v4 := Tryz.zeroValue4
 t9 := Tryz.underlying9
 a9 := Tryz.isAgg9
 z9 := Tryz.sizeOf9
 v9 := Tryz.zeroValue9
 t31 := Tryz.underlying26
 a31 := Tryz.isAgg26
 z31 := Tryz.sizeOf26
 v31 := Tryz.zeroValue26 }
open Go.Lib in
theorem Tryz.slices_Index_string (b off n c : Nat) (zs : List ByteArray) (x : ByteArray) (w : World) (hz : n ≤ zs.length) (hbig : n ≤ 9223372036854775807) (hc : ∀ j, j < zs.length → w.cell? ⟨b, off + j, none⟩ = some (.string (zs.getD j ByteArray.empty))) :
 Calls Tryz.prog 169 #[.slice (some ⟨b, off, none⟩) n c, .string x] w fun e w' => e = .returned (.int .i64 (Lib.idxOfS (zs.take n) x)) ∧ w' = w := Any.slices_Index_string Tryz.k7e b off n c zs x w hz hbig hc
def Tryz.z7l : Go.Shelf.Ren := ⟨fun | 16 => 244 | n => n, fun | 24 => 26 | 9 => 9 | 4 => 4 | n => n, fun | n => n⟩
theorem Tryz.k0l : Go.Proofs.Lays2.n16 Tryz.prog Tryz.z7l := {
 mixed := by kernel_rfl
 f16 := Tryz.func244.trans (congrArg some (by kernel_rfl))
 t4 := Tryz.underlying4
 a4 := Tryz.isAgg4
 z4 := Tryz.sizeOf4
 v4 := Tryz.zeroValue4
 t9 := Tryz.underlying9
 a9 := Tryz.isAgg9
 z9 := Tryz.sizeOf9
 v9 := Tryz.zeroValue9
 t24 := Tryz.underlying26
 a24 := Tryz.isAgg26
 z24 := Tryz.sizeOf26
 v24 := Tryz.zeroValue26
 i9 := by kernel_rfl }
open Go.RowKit Go.Lib in
theorem Tryz.slices_Clone_string_nil (n c : Nat) (w : World) :
 Calls Tryz.prog 244 #[.slice none n c] w fun e w' => e = .returned (.slice none 0 0) ∧ w' = w := Any.slices_Clone_string_nil Tryz.k0l n c w
def Tryz.v2n : Go.Shelf.Ren := ⟨fun | 190 => 212 | 125 => 260 | 258 => 259 | 128 => 299 | 129 => 300 | 302 => 290 | 303 => 291 | 304 => 292 | 305 => 293 | 306 => 294 | 307 => 295 | 308 => 296 | 309 => 297 | 310 => 298 | 333 => 317 | 329 => 318 | 330 => 319 | 334 => 320 | 335 => 321 | 336 => 262 | 344 => 338 | n => n, fun | 31 => 26 | 9 => 9 | 3 => 3 | 46 => 197 | 0 => 0 | 51 => 280 | 53 => 287 | 4 => 4 | 183 => 304 | 182 => 303 | 131 => 82 | 5 => 5 | 218 => 329 | 222 => 333 | 228 => 350 | 229 => 351 | n => n, fun | n => n⟩
theorem Tryz.k6f : Go.Proofs.Lays.n190 Tryz.prog Tryz.v2n := {
 mixed := by kernel_rfl
 f125 := Tryz.func260.trans (congrArg some (by kernel_rfl))
 f128 := Tryz.func299.trans (congrArg some (by kernel_rfl))
 f129 := Tryz.func300.trans (congrArg some (by kernel_rfl))
 f190 := Tryz.func212.trans (congrArg some (by kernel_rfl))
 f258 := Tryz.func259.trans (congrArg some (by kernel_rfl))
 f302 := Tryz.func290.trans (congrArg some (by kernel_rfl))
 f303 := Tryz.func291.trans (congrArg some (by kernel_rfl))
 f304 := Tryz.func292.trans (congrArg some (by kernel_rfl))
 f305 := Tryz.func293.trans (congrArg some (by kernel_rfl))
 f306 := Tryz.func294.trans (congrArg some (by kernel_rfl))
 f307 := Tryz.func295.trans (congrArg some (by kernel_rfl))
 f308 := Tryz.func296.trans (congrArg some (by kernel_rfl))
 f309 := Tryz.func297.trans (congrArg some (by kernel_rfl))
 f310 := Tryz.func298.trans (congrArg some (by kernel_rfl))
 f329 := Tryz.func318.trans (congrArg some (by kernel_rfl))
 f330 := Tryz.func319.trans (congrArg some (by kernel_rfl))
 f333 := Tryz.func317.trans (congrArg some (by kernel_rfl))
 f334 := Tryz.func320.trans (congrArg some (by kernel_rfl))
 f335 := Tryz.func321.trans (congrArg some (by kernel_rfl))
 f336 := Tryz.func262.trans (congrArg some (by kernel_rfl))
 f344 := Tryz.func338.trans (congrArg some (by kernel_rfl))
 t0 := Tryz.underlying0
 a0 := Tryz.isAgg0
 z0 := Tryz.sizeOf0
 v0 := Tryz.zeroValue0
 t3 := Tryz.underlying3
 a3 := Tryz.isAgg3
 z3 := Tryz.sizeOf3
 v3 := Tryz.zeroValue3
 t4 := Tryz.underlying4
 a4 := Tryz.isAgg4
 z4 := Tryz.sizeOf4
 v4 := Tryz.zeroValue4
 t5 := Tryz.underlying5
 a5 := Tryz.isAgg5
 z5 := Tryz.sizeOf5
 v5 := Tryz.zeroValue5
 t9 := Tryz.underlying9
 a9 := Tryz.isAgg9
 z9 := Tryz.sizeOf9
 v9 := Tryz.zeroValue9
 t31 := Tryz.underlying26
 a31 := Tryz.isAgg26
 z31 := Tryz.sizeOf26
 v31 := Tryz.zeroValue26
 t46 := Tryz.underlying197
 a46 := Tryz.isAgg197
 z46 := Tryz.sizeOf197
 v46 := Tryz.zeroValue197
 t51 := Tryz.underlying280
 a51 := Tryz.isAgg280
 z51 := Tryz.sizeOf280
 v51 := Tryz.zeroValue280
 t53 := Tryz.underlying287
 a53 := Tryz.isAgg287
 z53 := Tryz.sizeOf287
 v53 := Tryz.zeroValue287
 t131 := Tryz.underlying82
 a131 := Tryz.isAgg82
 z131 := Tryz.sizeOf82
 v131 := Tryz.zeroValue82
 t182 := Tryz.underlying303
 a182 := Tryz.isAgg303
 z182 := Tryz.sizeOf303
 v182 := Tryz.zeroValue303
 t183 := Tryz.underlying304
 a183 := Tryz.isAgg304
 z183 := Tryz.sizeOf304
 v183 := Tryz.zeroValue304
 t218 := Tryz.underlying329
 a218 := Tryz.isAgg329
 z218 := Tryz.sizeOf329
 v218 := Tryz.zeroValue329
 t222 := Tryz.underlying333
 a222 := Tryz.isAgg333
 z222 := Tryz.sizeOf333
 v222 := Tryz.zeroValue333
 t228 := Tryz.underlying350
 a228 := Tryz.isAgg350
 z228 := Tryz.sizeOf350
 v228 := Tryz.zeroValue350
 t229 := Tryz.underlying351
 a229 := Tryz.isAgg351
 z229 := Tryz.sizeOf351
 v229 := Tryz.zeroValue351 }
open Go.RowKit Go.Sort in
theorem Tryz.slices_Sort_string_none (p : Option Addr) (cap : Nat) (w : World) :
 Calls Tryz.prog 212 #[.slice p 0 cap] w fun e w' => e = .returned (.tuple #[]) ∧ w' = w := Any.slices_Sort_string_none Tryz.k6f p cap w
def Tryz.z0w : Go.Shelf.Ren := ⟨fun | 10 => 88 | 6 => 159 | n => n, fun | 22 => 26 | 23 => 9 | 25 => 28 | 3 => 3 | 4 => 4 | 0 => 0 | n => n, fun | n => n⟩
theorem Tryz.z6k : Go.Proofs.SlLaysH.n10 Tryz.prog Tryz.z0w := {
 mixed := by kernel_rfl
 f6 := ⟨Tryz.f159.name, by decide, Tryz.func159.trans (congrArg some (by kernel_rfl))⟩
 f10 := ⟨Tryz.f88.name, by decide, Tryz.func88.trans (congrArg some (by kernel_rfl))⟩
 t0 := Tryz.underlying0
 a0 := Tryz.isAgg0
 z0 := Tryz.sizeOf0
 v0 := Tryz.zeroValue0
 t3 := Tryz.underlying3
 a3 := Tryz.isAgg3
 z3 := Tryz.sizeOf3
 v3 := Tryz.zeroValue3
 t4 := Tryz.underlying4
 a4 := Tryz.isAgg4
 z4 := Tryz.sizeOf4
 v4 := Tryz.zeroValue4
 t22 := Tryz.underlying26
 a22 := Tryz.isAgg26
 z22 := Tryz.sizeOf26
 v22 := Tryz.zeroValue26
 a23 := Tryz.isAgg9
 z23 := Tryz.sizeOf9
 t25 := Tryz.underlying28
 a25 := Tryz.isAgg28
 z25 := Tryz.sizeOf28
 v25 := Tryz.zeroValue28 }
open Go.RowKit Go.Lib Go.Sort in
theorem Tryz.slices_DeleteFunc {α : Type} [Inhabited α] (enc : α → Value) (hO : OneCell enc) (p : α → Bool) (g : Nat) (lb : Array Value) (eg : ∀ args w, (callFunc g args).run Tryz.prog w = .ok (.enter g args) w) (zr : α) (v23 : ∀ w, (zeroValue 9).run Tryz.prog w = .ok (enc zr) w) (blk off cap : Nat) (d : Array α) (w : World) (hp : PredAt Tryz.prog g lb enc p w) (hpo : PredOver Tryz.prog g lb enc p blk off d.size w) (hH : Holds enc w blk off d) (hsz : d.size ≤ 9223372036854775807) (hcap : d.size ≤ cap) :
 Calls Tryz.prog 88 #[.slice (some ⟨blk, off, none⟩) d.size cap, .func (.func g) #[] lb] w fun e w' => e = .returned (.slice (some ⟨blk, off, none⟩) (d.toList.filter fun x => !p x).length cap) ∧ ∃ q, w' = putRow enc (Sort.ahead w q) blk off ((d.toList.filter fun x => !p x) ++ List.replicate (d.size - (d.toList.filter fun x => !p x).length) zr).toArray := AnyE.slices_DeleteFunc Tryz.z6k enc hO p g lb eg zr v23 blk off cap d w hp hpo hH hsz hcap
end Go.Proofs
namespace Go.Proofs.YtpmcfckechjppaaGreatDoor.Ps
open Go.RowKit Go.Shelf Go.Proofs.YtpmcfckechjppaaGreatDoorW.PrintWords Go.Proofs.YtpmcfckechjppaaGreatDoorW.PrintLast Go.Proofs.YtpmcfckechjppaaGreatDoor.P
attribute [local go_sem] Oper.semAt_some
def KB (B : Nat) (W W' : World) : Prop := ∀ v, W.cell? ⟨B, 0, none⟩ = some v → W'.cell? ⟨B, 0, none⟩ = some v
theorem KB.trans {B : Nat} {W1 W2 W3 : World} (h : KB B W1 W2) (k : KB B W2 W3) : KB B W1 W3 := fun v hv => k v (h v hv)
theorem KB.put (B : Nat) (W : World) (l : Nat) (o o' : Obj) (hl : W.heap[l]? = some o) (h1 : o.isCells = false) : KB B W (W.putObj l o') := fun v hv => by
 obtain ⟨q, hq, hc⟩ := cells_of_cell hv
 rw [← hv]
 refine World.cell?_of_block (w := W) (World.putObj_heap_other ?_)
 rintro rfl
 rw [hl] at hq
 cases hq
 rw [h1] at hc
 cases hc
theorem KB.below {B : Nat} {W W' : World} (hB : B < W.heap.size) (h : Below W.heap.size W W') : KB B W W' := fun v hv => (h.cell (p := ⟨B, 0, none⟩) hB).trans hv
def q3p (s : ByteArray) : Nat → Nat → List (Int × ByteArray)
 | 0, _ => []
 | f + 1, a => if Lib.indexByte (s.extract a s.size).data.toList 45 < 0 then [((a : Int), s.extract a s.size)] else ((a : Int), s.extract a (a + (Lib.indexByte (s.extract a s.size).data.toList 45).toNat)) :: q3p s f (a + (Lib.indexByte (s.extract a s.size).data.toList 45).toNat + 1)
def q3e (s : ByteArray) : List (Int × ByteArray) := q3p s (s.size + 1) 0
def k5q (x : Int × ByteArray) : Array Value := #[.int .i64 x.1, .string x.2]
theorem z7q (s : ByteArray) (a : Nat) (ha : a ≤ s.size) (n : Nat) (h : Lib.indexByte (s.extract a s.size).data.toList 45 = (n : Int)) : a + n < s.size := by
 have h1 := (Lib.indexByte_some h).1
 have h2 := (List.getElem?_eq_some_iff.1 h1).1
 rw [Array.length_toList, ByteArray.data_extract, Array.size_extract] at h2
 have : s.data.size = s.size := rfl
 omega
theorem k1f (n : Nat) (hn : 1 ≤ n) (y Bt : Nat) (s : ByteArray) (hs : s.size ≤ 4611686018427387904) (J Jx : List (Int × ByteArray) → World → Prop) (W : World)
 (hY : ∀ pre x W1, J pre W1 → pre ++ [x] <+: q3e s → YieldAt Fence.wide (n - 1) Tryz.prog y (k5q x) W1 fun e W' =>
  (e = .returned (.bool true) ∧ J (pre ++ [x]) W' ∧ KB Bt W1 W') ∨ (e = .returned (.bool false) ∧ Jx (pre ++ [x]) W'))
 (z0 : W.cell? ⟨Bt, 0, none⟩ = some (.string s)) (h0 : J [] W) :
 CallsIn Fence.wide n Tryz.prog 121 #[.func (.yield y) #[] #[], .pointer (some ⟨Bt, 0, none⟩)] W fun e W' => (∃ v, e = .returned v) ∧
  ((∃ ys, ys = q3e s ∧ J ys W') ∨ (∃ pre, pre <+: q3e s ∧ Jx pre W')) := by
 refine callsIn_of_wp Tryz.func121 rfl trivial ?_ rfl
 simp only [Tryz.ntmps121, List.size_toArray, List.length_cons, List.length_nil, Nat.reduceAdd, Nat.reduceSub, Array.replicate_succ, Array.replicate_zero, List.push_toArray, List.append_toArray, List.nil_append, List.cons_append]
 refine wpIn_wide.2 (wp_scope_straight ((wpIn_wide (n := n)).1 ?_))
 gi_wp2
 refine wpIn_label ?_
 simp only [Exit.then]
 gi_wp2
 have AY := aq hY
 clear hY
 gi_loopw [3] (fun i wr => ∃ (f a : Nat) (pre : List (Int × ByteArray)), i = .int .i64 (a : Int) ∧ a ≤ s.size ∧ s.size < a + f ∧ q0c (pre ++ q3p s f a = q3e s) ∧ q0c (J pre wr) ∧ q0c (wr.cell? ⟨Bt, 0, none⟩ = some (.string s))) (fun i _ => s.size - (intOf i).toNat)
 case atStart => exact ⟨s.size + 1, 0, [], rfl, Nat.zero_le _, by omega, ⟨rfl⟩, ⟨h0⟩, ⟨z0⟩⟩
 case round =>
  clear h0 z0
  obtain ⟨f, a, pre, rfl, ha, hfa, HE, HJ, HZ⟩ := hrel
  obtain ⟨f, rfl⟩ : ∃ f', f = f' + 1 := ⟨f - 1, by omega⟩
  have z0 := HZ.out
  have m0 : (0 : Int) ≤ (a : Int) := by omega
  have m1 : (a : Int) ≤ (s.size : Int) := by omega
  obtain ⟨q, hq⟩ : ∃ q, q = Lib.indexByte (s.extract a s.size).data.toList 45 := ⟨_, rfl⟩
  have hge := Lib.indexByte_ge (s.extract a s.size).data.toList 45
  rw [← hq] at hge
  have HQ := aq hq
  by_cases hneg : q < 0
  · have d0 : decide (q < 0) = true := decide_eq_true hneg
    have he : pre ++ [((a : Int), s.extract a s.size)] = q3e s := by
     rw [← HE.out]; unfold q3p; rw [if_pos (by rw [← HQ.out]; exact hneg)]
    have HE2 := aq he
    clear he hq
    obtain ⟨fn, tmps, assign, body, hy, hR⟩ := AY.out pre ((a : Int), s.extract a s.size) wr HJ.out (by rw [HE2.out]; exact List.prefix_refl _)
    simp only [k5q] at hy
    have HR := aq hR
    clear hR
    gi_wp2_with (first | (refine ⟨trivial, ?_⟩; gi_at_call 122; refine (callsIn_wide.2 (Tryz.strings_Index_one (s.extract a s.size) 45 _)).mono ?_; rintro e w' ⟨rfl, rfl⟩; rw [← HQ.out]))
    refine HR.out.mono ?_
    rintro e W3 (⟨rfl, hJ3, hk3⟩ | ⟨rfl, hJx3⟩)
    · have HJ3 := aq hJ3
      clear hJ3 hk3
      gi_wp2
      simp only [Exit.noGoto]
      go_end0
      exact ⟨⟨_, rfl⟩, .inl ⟨_, HE2.out, HJ3.out⟩⟩
    · have HJ3 := aq hJx3
      clear hJx3
      gi_wp2
      simp only [Exit.noGoto]
      go_end0
      exact ⟨⟨_, rfl⟩, .inr ⟨_, by rw [HE2.out]; exact List.prefix_refl _, HJ3.out⟩⟩
  · obtain ⟨m, rfl⟩ := Int.eq_ofNat_of_zero_le (show 0 ≤ q by omega)
    have d0 : decide ((m : Int) < 0) = false := decide_eq_false hneg
    have hlt := z7q s a ha m hq.symm
    have he : (pre ++ [((a : Int), s.extract a (a + m))]) ++ q3p s f (a + m + 1) = q3e s := by
     rw [← HE.out, List.append_assoc]
     conv => rhs; unfold q3p
     rw [← HQ.out, if_neg hneg, Int.toNat_natCast]
     rfl
    have HE2 := aq he
    have m2 : (a : Int) ≤ (a : Int) + (m : Int) := by omega
    have m3 : (a : Int) + (m : Int) ≤ (s.size : Int) := by omega
    have m4 : (0 : Int) ≤ (a : Int) + (m : Int) := by omega
    have m5 : ((a : Int) + (m : Int)).toNat = a + m := by omega
    clear he hq
    obtain ⟨fn, tmps, assign, body, hy, hR⟩ := AY.out pre ((a : Int), s.extract a (a + m)) wr HJ.out (by rw [← HE2.out]; exact List.prefix_append _ _)
    simp only [k5q] at hy
    have HR := aq hR
    clear hR
    gi_wp2_with (first | (refine ⟨trivial, ?_⟩; gi_at_call 122; refine (callsIn_wide.2 (Tryz.strings_Index_one (s.extract a s.size) 45 _)).mono ?_; rintro e w' ⟨rfl, rfl⟩; rw [← HQ.out]))
    refine HR.out.mono ?_
    rintro e W3 (⟨rfl, hJ3, hk3⟩ | ⟨rfl, hJx3⟩)
    · have HJ3 := aq hJ3
      have HK3 := aq hk3
      clear hJ3 hk3
      gi_wp2
      go_roundw
      case rel => exact ⟨f, a + m + 1, _, by congr 1 <;> omega, by omega, by omega, HE2, HJ3, ⟨HK3.out _ HZ.out⟩⟩
      case measure => simp [intOf]; omega
    · have HJ3 := aq hJx3
      clear hJx3
      gi_wp2
      simp only [Exit.noGoto, Exit.inBlock, Exit.then]
      refine bodyPost_ret (results_none rfl _ _ _) rfl ?_
      exact ⟨⟨_, rfl⟩, .inr ⟨_, by rw [← HE2.out]; exact List.prefix_append _ _, HJ3.out⟩⟩
abbrev q7v (s : ByteArray) : Type := { x : Int × ByteArray // x ∈ q3e s }
theorem z0v (n : Nat) (hn : 1 ≤ n) (Bt : Nat) (s : ByteArray) (hs : s.size ≤ 4611686018427387904) (w : World) (z0 : w.cell? ⟨Bt, 0, none⟩ = some (.string s)) :
 SeqStopsK Fence.wide n Tryz.prog 121 #[.pointer (some ⟨Bt, 0, none⟩)] (fun x : q7v s => k5q x.1) (KB Bt) (fun ys => ys.map Subtype.val = q3e s) (fun pre => pre.map Subtype.val <+: q3e s) (q3e s).length w := fun y J Jx W hW _ _ hY h0 => by
 refine (k1f n hn y Bt s hs (fun l W => ∃ l' : List (q7v s), l'.map Subtype.val = l ∧ J l' W) (fun l W => ∃ l' : List (q7v s), l'.map Subtype.val = l ∧ Jx l' W) W ?_ ((hW.cell (World.block_lt_of_cell? w _ z0)).trans z0) ⟨[], rfl, h0⟩).mono ?_
 · rintro pre x W1 ⟨pre', rfl, hJ⟩ hp
   have hx : x ∈ q3e s := hp.subset (by simp)
   have hlen : pre'.length < (q3e s).length := by
    have := hp.length_le
    simp at this
    omega
   obtain ⟨fn, tmps, assign, body, h1, h2⟩ := hY pre' ⟨x, hx⟩ W1 hJ hlen
   refine ⟨fn, tmps, assign, body, h1, h2.mono ?_⟩
   rintro e W' (⟨a, b, c⟩ | ⟨a, b⟩)
   · exact .inl ⟨a, ⟨_, by simp, b⟩, c⟩
   · exact .inr ⟨a, ⟨_, by simp, b⟩⟩
 · rintro e W' ⟨hv, ⟨ys, rfl, l', hl, hJ⟩ | ⟨pre, hp, l', hl, hJ⟩⟩
   · exact ⟨hv, .inl ⟨l', hl, hJ⟩⟩
   · exact ⟨hv, .inr ⟨l', by show l'.map Subtype.val <+: _; rw [hl]; exact hp, hJ⟩⟩
theorem q5o (s : ByteArray) : ∀ f a, (q3p s f a).length ≤ f
 | 0, _ => Nat.le_refl _
 | f + 1, a => by
  unfold q3p
  split
  · simp
  · have := q5o s f (a + (Lib.indexByte (s.extract a s.size).data.toList 45).toNat + 1)
    simp only [List.length_cons]
    omega
theorem v1q (n : Nat) (s : ByteArray) (w : World) : CallsIn Fence.wide n Tryz.prog 63 #[.string s] w fun e w' => e = .returned (.func (.func 121) #[] #[.pointer (some ⟨w.heap.size, 0, none⟩)]) ∧ w' = w.alloc (.cells #[.string s] 9) := by
 refine callsIn_of_wp Tryz.func63 rfl trivial ?_ rfl
 simp only [Tryz.ntmps63, List.size_toArray, List.length_cons, List.length_nil, Nat.reduceAdd, Nat.reduceSub, Array.replicate_succ, Array.replicate_zero, List.push_toArray, List.append_toArray, List.nil_append, List.cons_append]
 gi_wp2
 go_ret
 exact ⟨rfl, rfl⟩
end Go.Proofs.YtpmcfckechjppaaGreatDoor.Ps
namespace Go.Proofs.YtpmcfckechjppaaGreatDoor.Ps
open Go.RowKit Go.Shelf Go.Proofs.YtpmcfckechjppaaGreatDoorW.PrintWords Go.Proofs.YtpmcfckechjppaaGreatDoorW.PrintLast
variable {F : Fence} {n : Nat} {P : Program}
def Far {β : Type} (B : Nat) (J : β → World → Prop) : Prop := ∀ s W W' row, J s W → W.grownBy W' row → (∀ r, row = some r → B ≤ r) → J s W'
theorem Far.alloc {β : Type} {B : Nat} {J : β → World → Prop} (h : Far B J) {s : β} {W : World} (o : Obj) (hs : J s W) : J s (W.alloc o) := h s W _ none hs (World.grownBy_alloc W o none) (fun r e => by cases e)
theorem Far.put {β : Type} {B : Nat} {J : β → World → Prop} (h : Far B J) {s : β} {W : World} {l : Nat} (o : Obj) (hs : J s W) (hl : B ≤ l) : J s (W.putObj l o) := h s W _ (some l) hs (grownBy_putObj' W l o) (fun r e => by cases e; exact hl)
theorem Far.below {β : Type} {B : Nat} {J : β → World → Prop} (h : Far B J) {s : β} {W W' : World} (hs : J s W) (hb : Below W.heap.size W W') : J s W' := h s W _ none hs (q3v hb none) (fun r e => by cases e)
theorem Far.set {β : Type} {B : Nat} {J : β → World → Prop} (h : Far B J) {s : β} {W : World} {b j : Nat} {v : Value} (hs : J s W) (hl : B ≤ b) : J s (W.setCell ⟨b, j, none⟩ v) := h s W _ (some b) hs ⟨rfl, rfl, rfl, by simp [World.setCell], fun k hk hne => Below.heap_setCell W _ v k (fun e => hne (by rw [e]))⟩ (fun r e => by cases e; exact hl)
def z8l {α : Type} (F : Fence) (n : Nat) (P : Program) (g : Nat) (lb : Array Value) (encs : α → Array Value) (Kp : World → World → Prop) (L : List α) (w : World) : Prop :=
 ∀ (l : Nat) (J Jx : List α → World → Prop) (W : World), Below w.heap.size w W → Far W.heap.size J → Far W.heap.size Jx →
  (∀ pre x W1, J pre W1 → pre ++ [x] <+: L → YieldAt F (n - 1) P l (encs x) W1 fun e W' => (e = .returned (.bool true) ∧ J (pre ++ [x]) W' ∧ Kp W1 W') ∨ (e = .returned (.bool false) ∧ Jx (pre ++ [x]) W')) →
  J [] W → CallsIn F n P g (#[.func (.yield l) #[] #[]] ++ lb) W fun e W' => (∃ v, e = .returned v) ∧ (J L W' ∨ (∃ pre, pre <+: L ∧ Jx pre W'))
def j0o {α : Type} (B : Nat) (Kp : World → World → Prop) (I : List α → World → Prop) (Ix : Code → List α → World → Prop) (xs : List α) (W : World) : Exit → Act → World → Prop
 | .normal, _, W' => KeepsFrom B W W' ∧ Kp W W' ∧ I xs W'
 | .ret, _, W' => KeepsFrom B W W' ∧ Ix .ret xs W'
 | .exit id, _, W' => KeepsFrom B W W' ∧ Ix (.exit id) xs W'
 | _, _, _ => False
theorem z8e {α : Type} {g : Operand} {ps : Array Tmp} {assign body : Code} {Q : Exit → Act → World → Prop} {a : Act} {w : World}
 (hro : F.round = none) (h1 : 1 ≤ n) {gf : Nat} {lb : Array Value} (hg : a.eval g = .func (.func gf) #[] lb) (hFg : F.fn gf) (eg : ∀ args w, (callFunc gf args).run P w = .ok (.enter gf args) w)
 {encs : α → Array Value} {Kp : World → World → Prop} {L : List α} {w0 : World} (hseq : z8l F (n - 1) P gf lb encs Kp L w0)
 (hKt : ∀ {A B C : World}, Kp A B → Kp B C → Kp A C) (hKb : ∀ (W : World) (l : Nat) (o o' : Obj), w.heap.size ≤ l → W.heap[l]? = some o → o.isCells = false → o.isWalk = false → Kp W (W.putObj l o')) (hb0 : Below w0.heap.size w0 w) (hps : ∀ x, (encs x).size = ps.size)
 (I : List α → World → Prop) (Ix : Code → List α → World → Prop) (hI : Far w.heap.size I) (hIx : ∀ c, Far w.heap.size (Ix c)) (h0 : I [] w)
 (hround : ∀ (l : Nat) (pre : List α) (x : α) (W : World) (K : Act → World → Prop), w.heap.size ≤ l → I pre W → pre ++ [x] <+: L →
  (∀ a' W', KeepsFrom w.heap.size W W' → Kp W W' → (∀ W2, (∃ r o, w.heap.size ≤ r ∧ W2 = W'.putObj r o ∧ (∃ q, W'.heap[r]? = some q ∧ q.isCells = false) ∧ o.isCells = false) → body.wpIn (F.inRound l) (n - 1 - 1) P (j0o w.heap.size Kp I Ix (pre ++ [x]) W2) a' W2) → K a' W') →
  assign.wpIn (F.inRound l) (n - 1 - 1) P (Exit.then K (fun _ _ _ => False)) { tmps := (ps.zip (encs x)).foldl (fun t (p, v) => t.setIfInBounds p v) a.tmps, defers := [] } W)
 (hdone : ∀ (D : Nat) (W : World), w.heap.size ≤ D → I L W → W.heap[D]? = some (.deferred (some [])) → Q .normal { a with defers := { target := .collected D, args := #[] } :: a.defers } W)
 (hstop : ∀ (D : Nat) (c : Code) (pre : List α) (W : World), w.heap.size ≤ D → pre <+: L → Ix c pre W → W.heap[D]? = some (.deferred (some [])) → c.wpIn F n P Q { a with defers := { target := .collected D, args := #[] } :: a.defers } W) :
 (Code.rangeFunc g ps assign body).wpIn F n P Q a w := by
 refine wpIn_rangeFunc ?_
 intro fn hfn
 rw [hro]
 -- the loop's record, and the block for its rounds' deferred calls
 obtain ⟨D, hD⟩ : ∃ D, D = w.heap.size := ⟨_, rfl⟩
 let rec_ : LoopState → Option Code → Loop := fun st pe => { state := st, pending := pe, fn, tmps := a.tmps, params := ps, assign, body, defers := D }
 obtain ⟨W1, hW1⟩ : ∃ W1, W1 = (w.alloc (.deferred (some []))).alloc (.loop (rec_ .ready none)) := ⟨_, rfl⟩
 have s1 : W1.heap.size = D + 1 + 1 := by rw [hW1, hD]; simp
 have hK1 : W1.heap[D]? = some (.deferred (some [])) := by rw [hW1, hD]; exact (Below.heap_alloc _ _ _ (by simp)).trans (World.alloc_heap_new w _)
 have hL1 : W1.heap[D + 1]? = some (.loop (rec_ .ready none)) := by
  have h := World.alloc_heap_new (w.alloc (.deferred (some []))) (.loop (rec_ .ready none))
  rw [World.size_alloc] at h
  rw [hW1, hD]
  exact h
 have hI1 : I [] W1 := by rw [hW1]; exact hI.alloc _ (hI.alloc _ h0)
 have hb1 : Below w0.heap.size w0 W1 := by
  rw [hW1]
  exact hb0.trans ((((Below.refl _ w).alloc (Nat.le_refl _) _).alloc (by simp) _).mono hb0.size)
 refine ⟨D + 1, [{ target := .collected D, args := #[] }], W1, { target := .fn (.func gf) lb, args := #[.func (.yield (D + 1)) #[] #[]] }, W1, gf, #[.func (.yield (D + 1)) #[] #[]] ++ lb, W1, ?_, ?_, ?_, ?_, fun _ => h1, ?_⟩
 · rw [hW1, hD]
   show (Instr.enterLoop fn a.tmps ps assign body none).run P w = _
   rw [run_enterLoop_outer]
   simp only [rec_, hD]
 · simp only [resolve, hg]
   simp [go_sem]
 · intro f' hf'
   simp [Target.leads] at hf'
   subst hf'
   exact hFg
 · simp [invoke, go_sem, eg]
 · let J : List α → World → Prop := fun pre W => I pre W ∧ W.heap[D + 1]? = some (.loop (rec_ .ready none)) ∧ W.heap[D]? = some (.deferred (some []))
   let Jx : List α → World → Prop := fun pre W => ∃ c, Ix c pre W ∧ W.heap[D + 1]? = some (.loop (rec_ .done (some c))) ∧ W.heap[D]? = some (.deferred (some []))
   have low : ∀ {A B : World} {row : Option Nat} {k : Nat} {o : Obj}, A.grownBy B row → (∀ r, row = some r → W1.heap.size ≤ r) → k < W1.heap.size → A.heap[k]? = some o → B.heap[k]? = some o := fun hg' hr hk ho =>
    (hg'.block _ (Array.getElem?_eq_some_iff.1 ho).1 (fun e => by have := hr _ e.symm; omega)).trans ho
   have up : ∀ {row : Option Nat}, (∀ r, row = some r → W1.heap.size ≤ r) → ∀ r, row = some r → w.heap.size ≤ r := fun hr r e => by have := hr r e; omega
   refine (hseq (D + 1) J Jx W1 hb1 (fun s A B row hs hg' hr => ⟨hI s A B row hs.1 hg' (up hr), low hg' hr (by omega) hs.2.1, low hg' hr (by omega) hs.2.2⟩)
    (fun s A B row hs hg' hr => by
     obtain ⟨c, hc, hl, hk⟩ := hs
     exact ⟨c, hIx c s A B row hc hg' (up hr), low hg' hr (by omega) hl, low hg' hr (by omega) hk⟩) ?_ ⟨hI1, hL1, hK1⟩).mono ?_
   · rintro pre x W ⟨hi, hl, hk⟩ hlen
     refine ⟨fn, _, assign, body, run_yield (P := P) (args := encs x) hl (hps x), roundIn_of_wpIn hfn (hround (D + 1) pre x W _ (by omega) hi hlen ?_)⟩
     intro a' Wa hka hpa hbody
     have hla := hka.same _ _ (by omega) hl rfl
     have hda := hka.same _ _ (by omega) hk rfl
     have hlt := (Array.getElem?_eq_some_iff.1 hla).1
     refine ⟨_, run_beginRound hla rfl, ?_⟩
     obtain ⟨W2, hW2⟩ : ∃ W2, W2 = Wa.putObj (D + 1) (.loop { rec_ .ready none with state := .busy }) := ⟨_, rfl⟩
     have hl2 : W2.heap[D + 1]? = some (.loop (rec_ .busy none)) := by rw [hW2]; exact World.putObj_heap_same hlt
     have hk2 : W2.heap[D]? = some (.deferred (some [])) := by rw [hW2]; exact (World.putObj_heap_other (by omega)).trans hda
     have hp2 : Kp Wa W2 := by rw [hW2]; exact hKb _ _ _ _ (by omega) hla rfl rfl
     have goal := hbody W2 ⟨D + 1, _, by omega, hW2, ⟨_, hla, rfl⟩, rfl⟩
     rw [← hW2]
     clear hW2
     have leave : ∀ (jump : Option Code) (W3 : World), KeepsFrom w.heap.size W2 W3 → ∃ st, st = (if jump.isNone then LoopState.ready else .done) ∧ (Instr.endRound (D + 1) jump).run P W3 = .ok (.bool jump.isNone) (W3.putObj (D + 1) (.loop (rec_ st jump))) ∧
      W3.heap[D + 1]? = some (.loop (rec_ .busy none)) ∧ (W3.putObj (D + 1) (.loop (rec_ st jump))).heap[D + 1]? = some (.loop (rec_ st jump)) ∧ (W3.putObj (D + 1) (.loop (rec_ st jump))).heap[D]? = some (.deferred (some [])) := fun jump W3 h3 => by
      have hl3 := h3.same _ _ (by omega) hl2 rfl
      exact ⟨_, rfl, run_endRound (P := P) jump hl3, hl3, World.putObj_heap_same (Array.getElem?_eq_some_iff.1 hl3).1, (World.putObj_heap_other (by omega)).trans (h3.same _ _ (by omega) hk2 rfl)⟩
     refine wpIn_mono goal ?_
     rintro e a3 W3 hp
     cases e with
     | normal =>
      obtain ⟨k3, p3, i3⟩ := hp
      obtain ⟨st, rfl, r3, l3, l4, d4⟩ := leave none W3 k3
      exact ⟨_, _, r3, .inl ⟨rfl, ⟨hI.put _ i3 (by omega), l4, d4⟩, hKt hpa (hKt (hKt hp2 p3) (hKb _ _ _ _ (by omega) l3 rfl rfl))⟩⟩
     | ret =>
      obtain ⟨k3, i3⟩ := hp
      obtain ⟨st, rfl, r3, l3, l4, d4⟩ := leave (some .ret) W3 k3
      exact ⟨_, _, r3, .inr ⟨rfl, .ret, (hIx _).put _ i3 (by omega), l4, d4⟩⟩
     | exit id =>
      obtain ⟨k3, i3⟩ := hp
      obtain ⟨st, rfl, r3, l3, l4, d4⟩ := leave (some (.exit id)) W3 k3
      exact ⟨_, _, r3, .inr ⟨rfl, .exit id, (hIx _).put _ i3 (by omega), l4, d4⟩⟩
     | _ => exact hp.elim
   · rintro e W2 ⟨⟨v, rfl⟩, (⟨hi, hl, hk⟩ | ⟨pre, hSp, c, hi, hl, hk⟩)⟩
     · exact ⟨none, _, run_endLoop (P := P) hl (by simp [rec_]), hdone _ _ (by omega) (hI.put _ hi (by omega)) ((World.putObj_heap_other (by omega)).trans hk)⟩
     · exact ⟨some c, _, run_endLoop (P := P) hl (by simp [rec_]), hstop _ c pre _ (by omega) hSp ((hIx c).put _ hi (by omega)) ((World.putObj_heap_other (by omega)).trans hk)⟩
variable {F : Fence} {n : Nat} {P : Program}
def k3m {α : Type} (F : Fence) (n : Nat) (P : Program) (g : Nat) (lb : Array Value) (encs : α → Array Value) (x : α) (w : World) : Prop :=
 ∀ (l : Nat) (J Jx : List α → World → Prop) (W : World), Below w.heap.size w W → Far W.heap.size J → Far W.heap.size Jx →
  (∀ W1, J [] W1 → YieldAt F (n - 1) P l (encs x) W1 fun e W' => e = .returned (.bool false) ∧ Jx [x] W') →
  J [] W → CallsIn F n P g (#[.func (.yield l) #[] #[]] ++ lb) W fun e W' => (∃ v, e = .returned v) ∧ Jx [x] W'
def k6l (B : Nat) (Ix : Code → World → Prop) (W : World) : Exit → Act → World → Prop
 | .ret, _, W' => KeepsFrom B W W' ∧ Ix .ret W'
 | .exit id, _, W' => KeepsFrom B W W' ∧ Ix (.exit id) W'
 | _, _, _ => False
theorem range_one {α : Type} {g : Operand} {ps : Array Tmp} {assign body : Code} {Q : Exit → Act → World → Prop} {a : Act} {w : World}
 (hro : F.round = none) (h1 : 1 ≤ n) {gf : Nat} {lb : Array Value} (hg : a.eval g = .func (.func gf) #[] lb) (hFg : F.fn gf) (eg : ∀ args w, (callFunc gf args).run P w = .ok (.enter gf args) w)
 {encs : α → Array Value} {x : α} {w0 : World} (hseq : k3m F (n - 1) P gf lb encs x w0)
 (hb0 : Below w0.heap.size w0 w) (hps : (encs x).size = ps.size)
 (I : World → Prop) (Ix : Code → World → Prop) (hI : Far w.heap.size fun (_ : List α) => I) (hIx : ∀ c, Far w.heap.size fun (_ : List α) => Ix c) (h0 : I w)
 (hround : ∀ (l : Nat) (W : World) (K : Act → World → Prop), w.heap.size ≤ l → I W →
  (∀ a' W', KeepsFrom w.heap.size W W' → (∀ W2, (∃ r o, w.heap.size ≤ r ∧ W2 = W'.putObj r o ∧ (∃ q, W'.heap[r]? = some q ∧ q.isCells = false) ∧ o.isCells = false) → body.wpIn (F.inRound l) (n - 1 - 1) P (k6l w.heap.size Ix W2) a' W2) → K a' W') →
  assign.wpIn (F.inRound l) (n - 1 - 1) P (Exit.then K (fun _ _ _ => False)) { tmps := (ps.zip (encs x)).foldl (fun t (p, v) => t.setIfInBounds p v) a.tmps, defers := [] } W)
 (hstop : ∀ (D : Nat) (c : Code) (W : World), w.heap.size ≤ D → Ix c W → W.heap[D]? = some (.deferred (some [])) → c.wpIn F n P Q { a with defers := { target := .collected D, args := #[] } :: a.defers } W) :
 (Code.rangeFunc g ps assign body).wpIn F n P Q a w := by
 refine wpIn_rangeFunc ?_
 intro fn hfn
 rw [hro]
 -- the loop's record, and the block for its rounds' deferred calls
 obtain ⟨D, hD⟩ : ∃ D, D = w.heap.size := ⟨_, rfl⟩
 let rec_ : LoopState → Option Code → Loop := fun st pe => { state := st, pending := pe, fn, tmps := a.tmps, params := ps, assign, body, defers := D }
 obtain ⟨W1, hW1⟩ : ∃ W1, W1 = (w.alloc (.deferred (some []))).alloc (.loop (rec_ .ready none)) := ⟨_, rfl⟩
 have s1 : W1.heap.size = D + 1 + 1 := by rw [hW1, hD]; simp
 have hK1 : W1.heap[D]? = some (.deferred (some [])) := by rw [hW1, hD]; exact (Below.heap_alloc _ _ _ (by simp)).trans (World.alloc_heap_new w _)
 have hL1 : W1.heap[D + 1]? = some (.loop (rec_ .ready none)) := by
  have h := World.alloc_heap_new (w.alloc (.deferred (some []))) (.loop (rec_ .ready none))
  rw [World.size_alloc] at h
  rw [hW1, hD]
  exact h
 have hI1 : I W1 := by rw [hW1]; exact hI.alloc (s := []) _ (hI.alloc (s := []) _ h0)
 have hb1 : Below w0.heap.size w0 W1 := by
  rw [hW1]
  exact hb0.trans ((((Below.refl _ w).alloc (Nat.le_refl _) _).alloc (by simp) _).mono hb0.size)
 refine ⟨D + 1, [{ target := .collected D, args := #[] }], W1, { target := .fn (.func gf) lb, args := #[.func (.yield (D + 1)) #[] #[]] }, W1, gf, #[.func (.yield (D + 1)) #[] #[]] ++ lb, W1, ?_, ?_, ?_, ?_, fun _ => h1, ?_⟩
 · rw [hW1, hD]
   show (Instr.enterLoop fn a.tmps ps assign body none).run P w = _
   rw [run_enterLoop_outer]
   simp only [rec_, hD]
 · simp only [resolve, hg]
   simp [go_sem]
 · intro f' hf'
   simp [Target.leads] at hf'
   subst hf'
   exact hFg
 · simp [invoke, go_sem, eg]
 · let J : List α → World → Prop := fun _ W => I W ∧ W.heap[D + 1]? = some (.loop (rec_ .ready none)) ∧ W.heap[D]? = some (.deferred (some []))
   let Jx : List α → World → Prop := fun _ W => ∃ c, Ix c W ∧ W.heap[D + 1]? = some (.loop (rec_ .done (some c))) ∧ W.heap[D]? = some (.deferred (some []))
   have low : ∀ {A B : World} {row : Option Nat} {k : Nat} {o : Obj}, A.grownBy B row → (∀ r, row = some r → W1.heap.size ≤ r) → k < W1.heap.size → A.heap[k]? = some o → B.heap[k]? = some o := fun hg' hr hk ho =>
    (hg'.block _ (Array.getElem?_eq_some_iff.1 ho).1 (fun e => by have := hr _ e.symm; omega)).trans ho
   have up : ∀ {row : Option Nat}, (∀ r, row = some r → W1.heap.size ≤ r) → ∀ r, row = some r → w.heap.size ≤ r := fun hr r e => by have := hr r e; omega
   refine (hseq (D + 1) J Jx W1 hb1 (fun s A B row hs hg' hr => ⟨hI s A B row hs.1 hg' (up hr), low hg' hr (by omega) hs.2.1, low hg' hr (by omega) hs.2.2⟩)
    (fun s A B row hs hg' hr => by
     obtain ⟨c, hc, hl, hk⟩ := hs
     exact ⟨c, hIx c s A B row hc hg' (up hr), low hg' hr (by omega) hl, low hg' hr (by omega) hk⟩) ?_ ⟨hI1, hL1, hK1⟩).mono ?_
   · rintro W ⟨hi, hl, hk⟩
     refine ⟨fn, _, assign, body, run_yield (P := P) (args := encs x) hl hps, roundIn_of_wpIn hfn (hround (D + 1) W _ (by omega) hi ?_)⟩
     intro a' Wa hka hbody
     have hla := hka.same _ _ (by omega) hl rfl
     have hda := hka.same _ _ (by omega) hk rfl
     have hlt := (Array.getElem?_eq_some_iff.1 hla).1
     refine ⟨_, run_beginRound hla rfl, ?_⟩
     obtain ⟨W2, hW2⟩ : ∃ W2, W2 = Wa.putObj (D + 1) (.loop { rec_ .ready none with state := .busy }) := ⟨_, rfl⟩
     have hl2 : W2.heap[D + 1]? = some (.loop (rec_ .busy none)) := by rw [hW2]; exact World.putObj_heap_same hlt
     have hk2 : W2.heap[D]? = some (.deferred (some [])) := by rw [hW2]; exact (World.putObj_heap_other (by omega)).trans hda
     have goal := hbody W2 ⟨D + 1, _, by omega, hW2, ⟨_, hla, rfl⟩, rfl⟩
     rw [← hW2]
     clear hW2
     have leave : ∀ (jump : Option Code) (W3 : World), KeepsFrom w.heap.size W2 W3 → ∃ st, st = (if jump.isNone then LoopState.ready else .done) ∧ (Instr.endRound (D + 1) jump).run P W3 = .ok (.bool jump.isNone) (W3.putObj (D + 1) (.loop (rec_ st jump))) ∧
      W3.heap[D + 1]? = some (.loop (rec_ .busy none)) ∧ (W3.putObj (D + 1) (.loop (rec_ st jump))).heap[D + 1]? = some (.loop (rec_ st jump)) ∧ (W3.putObj (D + 1) (.loop (rec_ st jump))).heap[D]? = some (.deferred (some [])) := fun jump W3 h3 => by
      have hl3 := h3.same _ _ (by omega) hl2 rfl
      exact ⟨_, rfl, run_endRound (P := P) jump hl3, hl3, World.putObj_heap_same (Array.getElem?_eq_some_iff.1 hl3).1, (World.putObj_heap_other (by omega)).trans (h3.same _ _ (by omega) hk2 rfl)⟩
     refine wpIn_mono goal ?_
     rintro e a3 W3 hp
     cases e with
     | ret =>
      obtain ⟨k3, i3⟩ := hp
      obtain ⟨st, rfl, r3, l3, l4, d4⟩ := leave (some .ret) W3 k3
      exact ⟨_, _, r3, rfl, .ret, (hIx _).put (s := []) _ i3 (by omega), l4, d4⟩
     | exit id =>
      obtain ⟨k3, i3⟩ := hp
      obtain ⟨st, rfl, r3, l3, l4, d4⟩ := leave (some (.exit id)) W3 k3
      exact ⟨_, _, r3, rfl, .exit id, (hIx _).put (s := []) _ i3 (by omega), l4, d4⟩
     | _ => exact hp.elim
   · rintro e W2 ⟨⟨v, rfl⟩, c, hi, hl, hk⟩
     exact ⟨some c, _, run_endLoop (P := P) hl (by simp [rec_]), hstop _ c _ (by omega) ((hIx c).put (s := []) _ hi (by omega)) ((World.putObj_heap_other (by omega)).trans hk)⟩
end Go.Proofs.YtpmcfckechjppaaGreatDoor.Ps
namespace Go.Proofs.YtpmcfckechjppaaGreatDoor.Ps
open Go.RowKit Go.Shelf Go.Proofs.YtpmcfckechjppaaGreatDoorW.PrintWords Go.Proofs.YtpmcfckechjppaaGreatDoorW.PrintLast Go.Proofs.YtpmcfckechjppaaGreatDoor.P Go.Proofs.YtpmcfckechjppaaGreatDoor.LikW
attribute [local go_sem] Oper.semAt_some
theorem z2w (n : Nat) (p q : Addr) (w : World) :
 CallsDIn Fence.wide n Tryz.prog 64 #[.pointer (some p), .pointer (some q)] .returning w fun e u' w' => e = .returned (.tuple #[]) ∧ u' = .returning ∧ w' = w.alloc (.cells #[.nilIface] 94) := by
 have hta : ∀ W : World, (Instr.typeAssert .nilIface 20 94 true).run Tryz.prog W = .ok (.tuple #[.agg #[.nilIface], .bool false]) W := fun W => by kernel_rfl
 refine callsDIn_of_wpSIn Tryz.func64 rfl trivial fun c₀ cs hu => ?_
 apply wpSIn_seq
 apply wpSIn_region
 simp [wpOpsSIn, go_sem, recoverD, hu, hta, Tryz.ntmps64, Exit.thenS]
 apply wpSIn_seq
 refine wpSIn_of_wpIn rfl ?_
 simp only [Array.replicate_succ, Array.replicate_zero, List.push_toArray, List.nil_append, List.cons_append, List.setIfInBounds_toArray, List.set_cons_succ, List.set_cons_zero, List.append_toArray]
 gi_wp2
 simp only [Exit.thenS]
 refine wpSIn_cond (t := false) (by simp [Act.eval]) ?_
 simp only [Bool.false_eq_true, if_false]
 refine wpSIn_of_wpIn rfl (wpIn_skip ?_)
 cases c₀
 simp_all [bodyPostS, results, Tryz.results64]
def v0k : List (Int × ByteArray) → Option (List (Int × ByteArray))
 | [] => some []
 | x :: l => (q2a.f x.2).bind fun r => (v0k l).bind fun m => some ((x.1, r) :: m)
def q8s (l : List (Int × ByteArray)) : List Value := l.flatMap fun x => [.int .i64 x.1, .string x.2]
def rdv (v : Value) (e : Int) : Array Value := #[v, .int .i64 e, .string ⟨#[]⟩, .slice none 0 0, .string ⟨#[]⟩, .string ⟨#[]⟩, .slice none 0 0, .slice none 0 0, .slice none 0 0, .string ⟨#[]⟩]
theorem z3q : ∀ (pre m : List (Int × ByteArray)) (x : Int × ByteArray) (r : ByteArray), v0k pre = some m → q2a.f x.2 = some r → v0k (pre ++ [x]) = some (m ++ [(x.1, r)])
 | [], m, x, r, h, hr => by cases h; simp [v0k, hr]
 | y :: pre, m, x, r, h, hr => by
  simp only [v0k, List.cons_append] at h ⊢
  obtain ⟨q, hq, h⟩ := Option.bind_eq_some_iff.1 h
  obtain ⟨m', hm, h⟩ := Option.bind_eq_some_iff.1 h
  cases h
  rw [hq, z3q pre m' x r hm hr]
  rfl
theorem z2h : ∀ (l m : List (Int × ByteArray)), v0k l = some m → m.length = l.length
 | [], m, h => by cases h; rfl
 | y :: l, m, h => by
  simp only [v0k] at h
  obtain ⟨_, _, h⟩ := Option.bind_eq_some_iff.1 h
  obtain ⟨m', hm, h⟩ := Option.bind_eq_some_iff.1 h
  cases h
  simp [z2h l m' hm]
theorem z7u : ∀ (l m : List (Int × ByteArray)), v0k l = some m → ∀ x ∈ l, ∃ r, q2a.f x.2 = some r
 | [], m, h, x, hx => by simp at hx
 | y :: l, m, h, x, hx => by
  simp only [v0k] at h
  obtain ⟨r, hr, h⟩ := Option.bind_eq_some_iff.1 h
  obtain ⟨m', hm, h⟩ := Option.bind_eq_some_iff.1 h
  rcases List.mem_cons.1 hx with rfl | hx
  · exact ⟨r, hr⟩
  · exact z7u l m' hm x hx
theorem k3u {W W1 : World} {g : Nat} {cs : Array Value} {t : TypeId} (h : Put g W W1) (K : W.heap[g]? = some (.cells cs t (0, 0))) : KeepsOthers W W1 := ⟨by rw [h.size]; exact Nat.le_refl _, fun k o hk ho => (h.far k (fun e => by subst e; rw [K] at hk; cases hk; cases ho)).trans hk⟩
theorem z4a (m : List (Int × ByteArray)) (x : Int × ByteArray) : q8s (m ++ [x]) = q8s m ++ [.int .i64 x.1, .string x.2] := by unfold q8s; rw [List.flatMap_append]; rfl
theorem z3y : ∀ (m : List (Int × ByteArray)) (i : Nat) (x : Int × ByteArray), m[i]? = some x → (q8s m)[2 * i]? = some (.int .i64 x.1) ∧ (q8s m)[2 * i + 1]? = some (.string x.2)
 | [], i, x, h => by simp at h
 | y :: m, 0, x, h => by
  simp only [List.getElem?_cons_zero, Option.some.injEq] at h
  subst h
  exact ⟨rfl, rfl⟩
 | y :: m, i + 1, x, h => by
  obtain ⟨h1, h2⟩ := z3y m i x h
  exact ⟨h1, h2⟩
theorem k8h {W : World} {R : Nat} {A : Option Addr} {c : Nat} {m : List (Int × ByteArray)} {cs : Array Value} {t : TypeId} (h : W.ownsRow R 92 2 (.slice A m.length c) m.length (q8s m)) (hR : W.heap[R]? = some (.cells cs t (0, 0))) (ht : 92 ≠ t) : PS W R A m ∧ m.length ≤ c := by
 have hne := own_ne h hR ht
 obtain ⟨hl, ⟨e, e0⟩ | ⟨g, cap, cur, e, h1, h2, h3, h4, h5, h6⟩⟩ := h
 · have : m = [] := List.eq_nil_of_length_eq_zero e0
   subst this
   exact ⟨PS.nil _ _ _, Nat.zero_le _⟩
 · cases e
   refine ⟨fun i x hx => ?_, h3⟩
   obtain ⟨q1, q2⟩ := z3y m i x hx
   have hi := (List.getElem?_eq_some_iff.1 hx).1
   rw [← h6, List.getElem?_take, if_pos (by omega), Array.getElem?_toList] at q1 q2
   exact ⟨g, 0, rfl, fun e => hne (by rw [e]; rfl), (Array.getElem?_eq_some_iff.1 h2).1, by rw [Nat.zero_add]; exact (q0a h2 _).trans q1, by rw [Nat.zero_add]; exact (q0a h2 _).trans q2⟩
theorem v8v {A B : World} {row : Option Nat} {k : Nat} {o : Obj} (h : A.heap[k]? = some o) (ho : o.isCells = true) (hg : A.grownBy B row) (hr : ∀ r, row = some r → ∃ q : Obj, A.heap[r]? = some q ∧ q.isCells = false) : B.heap[k]? = some o := by
 refine (hg.block k (Array.getElem?_eq_some_iff.1 h).1 ?_).trans h
 intro e
 obtain ⟨q, hq, hc⟩ := hr k e.symm
 rw [h] at hq
 cases hq
 rw [ho] at hc
 cases hc
theorem z3f {w : World} {base : Nat} {e : TypeId} {size n : Nat} {v : Value} {xs : List Value} (h : w.ownsRow base e size v n xs) (k : Nat) (hk : v.ownBlock = some k) : ∃ cur, w.heap[k]? = some (.cells cur e (0, 0)) := by
 obtain ⟨_, ⟨rfl, _⟩ | ⟨g, cap, cur, rfl, _, hh, _⟩⟩ := h
 · cases hk
 · cases hk; exact ⟨cur, hh⟩
theorem j1j {A B : World} {row : Option Nat} {base : Nat} {e : TypeId} {size n : Nat} {v : Value} {xs : List Value} (h : A.ownsRow base e size v n xs) (hg : A.grownBy B row) (hr : ∀ r, row = some r → ∃ q : Obj, A.heap[r]? = some q ∧ q.isCells = false) : B.ownsRow base e size v n xs :=
 q2j h fun k hk => by
  obtain ⟨cur, hc⟩ := z3f h k hk
  exact (v8v hc rfl hg hr).trans hc.symm
theorem dwK {W W1 : World} {k : Nat} {o : Option Obj} (K : q0c (W.heap[k]? = o)) (h : W1 = W.drew) : q0c (W1.heap[k]? = o) := by subst h; exact K
theorem dwO {W W1 : World} {base : Nat} {e : TypeId} {size n : Nat} {v : Value} {xs : List Value} (h : q0c (W.ownsRow base e size v n xs)) (q : W1 = W.drew) : q0c (W1.ownsRow base e size v n xs) := by subst q; exact h
theorem q5f {W W1 : World} (h : Below W.heap.size W W1) : KeepsOthers W W1 := ⟨h.size, fun k o hk _ => (h.block k (Array.getElem?_eq_some_iff.1 hk).1).trans hk⟩
theorem lb {W W1 W2 : World} {n k : Nat} {o : Obj} (B : q0c (Below n W W1)) (hb : Below W1.heap.size W1 W2) (K : W1.heap[k]? = some o) (hn : n ≤ k) : q0c (Below n W W2) := ⟨B.out.trans (hb.mono (Nat.le_trans hn (Nat.le_of_lt (Array.getElem?_eq_some_iff.1 K).1)))⟩
theorem z1h (k : Nat) (s : ByteArray) (hs : s.size ≤ 1048576) (w : World) (hG : GrandW.G w) (i : Int) (hf : q0t.f k s = some (i, false)) (x : Int × ByteArray) (l l2 : List (Int × ByteArray)) (hl : v0k (q3e s) = some (x :: l))
 (r : ByteArray) (hr : z1x k (x :: l) = some r) (h0 : r ≠ ⟨#[]⟩) (hx : r ≠ ⟨#[120]⟩) (hf2 : q2r.f k r = some true) (hz : r.size = 2 ∨ r.size = 3) (r2 : ByteArray) (hr2 : z1x k l = some r2) (he : q3m.f k r2 = some false)
 (sc y : ByteArray) (h1 : k8c k (q4e.f k) l = some (sc, l2)) (h2 : k8c k (q4f.f k) l2 = some (y, [])) :
 Calls Tryz.prog 26 #[.string s] w fun e w' => e = .returned (.tuple #[.agg #[.string r, .slice none 0 0, .string sc, .string y, .slice none 0 0, .slice none 0 0, .slice none 0 0, .string ⟨#[]⟩], .nilIface]) ∧ Below w.heap.size w w' := by
 have hmf : ∀ (fn : Fn) (first cap : Array Value) (w : World), (Instr.makeFunc fn first cap).run Tryz.prog w = .ok (.func fn first cap) w := fun _ _ _ _ => rfl
 have hmo : Tryz.prog.follows .mixedOrders = true := by kernel_rfl
 have HG := aq hG
 have HF := aq hf
 refine (callsIn_wide (n := 4)).1 ?_
 refine callsIn_of_wp_marks Tryz.func26 rfl trivial ?_ rfl
 simp only [Tryz.ntmps26, List.size_toArray, List.length_cons, List.length_nil, Nat.reduceAdd, Nat.reduceSub, Array.replicate_succ, Array.replicate_zero, List.push_toArray, List.append_toArray, List.nil_append, List.cons_append]
 gi_wp2_with (first
  | (refine ⟨trivial, ?_⟩; gi_at_call 61; refine (callsIn_wide.2 (q0t.calls k s i false _ HF.out (HG.out.below (by repeat (first | exact Below.refl _ _ | apply q0b))))).mono ?_; rintro e w1 ⟨rfl, hb1⟩)
  | (refine ⟨trivial, ?_⟩; gi_at_call 63; refine (v1q _ s _).mono ?_; rintro e w2 ⟨rfl, rfl⟩))
 have s1 := hb1.size
 have t1 : w1.heap[w.heap.size]? = some (.cells #[.string ⟨#[]⟩, .slice none 0 0, .string ⟨#[]⟩, .string ⟨#[]⟩, .slice none 0 0, .slice none 0 0, .slice none 0 0, .string ⟨#[]⟩] 33 (0, 0)) :=
  (hb1.block _ (by simp; omega)).trans (((q0b (Below.refl _ _) _).block _ (by simp)).trans (World.alloc_heap_new w _))
 have t2 : w1.heap[w.heap.size + 1]? = some (.cells #[.nilIface] 55 (0, 0)) := by
  refine (hb1.block _ (by simp)).trans ?_
  have := World.alloc_heap_new (w.alloc (.cells #[.string ⟨#[]⟩, .slice none 0 0, .string ⟨#[]⟩, .string ⟨#[]⟩, .slice none 0 0, .slice none 0 0, .slice none 0 0, .string ⟨#[]⟩] 33)) (.cells #[.nilIface] 55)
  simpa using this
 have B1 : Below w.heap.size w w1 := (q0b (q0b (Below.refl _ _) _) _).trans (hb1.mono (by simp; omega))
 obtain ⟨R, hR⟩ : ∃ R, R = w1.heap.size := ⟨_, rfl⟩
 obtain ⟨W0, hW0⟩ : ∃ W0, (((w1.alloc (.cells #[.slice none 0 0, .int .i64 (s.size : Int), .string ⟨#[]⟩, .slice none 0 0, .string ⟨#[]⟩, .string ⟨#[]⟩, .slice none 0 0, .slice none 0 0, .slice none 0 0, .string ⟨#[]⟩] 87)).alloc (.cells #[.pointer (some ⟨w1.heap.size, 0, none⟩)] 84)).alloc (.cells #[.string s] 9)) = W0 := ⟨_, rfl⟩
 have s0 : W0.heap.size = R + 3 := by rw [← hW0, hR]; simp
 have bR : W0.heap[R]? = some (.cells (rdv (.slice none 0 0) s.size) 87 (0, 0)) := by
  rw [← hW0, hR]
  exact ((q0b (q0b (Below.refl _ _) _) _).block _ (by simp)).trans (World.alloc_heap_new w1 _)
 have bQ : W0.heap[R + 1]? = some (.cells #[.pointer (some ⟨R, 0, none⟩)] 84 (0, 0)) := by
  rw [← hW0, hR]
  have := World.alloc_heap_new (w1.alloc (.cells #[.slice none 0 0, .int .i64 (s.size : Int), .string ⟨#[]⟩, .slice none 0 0, .string ⟨#[]⟩, .string ⟨#[]⟩, .slice none 0 0, .slice none 0 0, .slice none 0 0, .string ⟨#[]⟩] 87)) (.cells #[.pointer (some ⟨w1.heap.size, 0, none⟩)] 84)
  rw [World.size_alloc] at this
  exact ((q0b (Below.refl _ _) _).block _ (by simp)).trans this
 have bS : W0.heap[R + 2]? = some (.cells #[.string s] 9 (0, 0)) := by
  rw [← hW0, hR]
  have := World.alloc_heap_new ((w1.alloc (.cells #[.slice none 0 0, .int .i64 (s.size : Int), .string ⟨#[]⟩, .slice none 0 0, .string ⟨#[]⟩, .string ⟨#[]⟩, .slice none 0 0, .slice none 0 0, .slice none 0 0, .string ⟨#[]⟩] 87)).alloc (.cells #[.pointer (some ⟨w1.heap.size, 0, none⟩)] 84)) (.cells #[.string s] 9)
  rw [World.size_alloc, World.size_alloc] at this
  exact this
 have B0 : Below R w1 W0 := by rw [← hW0, hR]; exact q0b (q0b (q0b (Below.refl _ _) _) _) _
 rw [hW0, ← hR]
 have HRR := aq hR
 clear hW0 hR
 have HL := aq hl
 have T1 := aq t1
 have T2 := aq t2
 have HB1 := aq B1
 have HB0 := aq B0
 clear t1 t2 hb1 hl
 refine wpIn_rangeFunc_ownG rfl (by omega) (gf := 121) (lb := #[.pointer (some ⟨R + 1 + 1, 0, none⟩)]) rfl trivial (enters_of Tryz.func121 (by kernel_rfl) rfl)
  (z0v _ (by omega) (R + 1 + 1) s (by omega) W0 ((q0a bS 0).trans rfl)) KB.trans (fun W lw o o' _ h h1 _ => KB.put _ W lw o o' h h1) (Below.refl _ _) (fun _ => rfl)
  (fun (pre : List (q7v s)) W => ∃ v m, v0k (pre.map Subtype.val) = some m ∧ W.heap[R]? = some (.cells (rdv v s.size) 87 (0, 0)) ∧ W.ownsRow R 92 2 v m.length (q8s m) ∧ W.heap[R + 1]? = some (.cells #[.pointer (some ⟨R, 0, none⟩)] 84 (0, 0)) ∧ W.heap[R + 2]? = some (.cells #[.string s] 9 (0, 0)) ∧ Below R W0 W)
  (fun _ _ _ => False)
  (fun pre A B row ⟨v, m, i1, i2, i3, i4, i5, i6⟩ hg hr => ⟨v, m, i1, v8v i2 rfl hg (fun r e => (hr r e).2), j1j i3 hg (fun r e => (hr r e).2), v8v i4 rfl hg (fun r e => (hr r e).2), v8v i5 rfl hg (fun r e => (hr r e).2), i6.grown hg (by have := (Array.getElem?_eq_some_iff.1 i2).1; omega) (fun r e => by have := (hr r e).1; omega)⟩)
  (fun _ _ _ _ _ hs _ _ => hs)
  ⟨_, [], rfl, bR, q3a _ _ _ _, bQ, bS, Below.refl _ _⟩
  (fun x' : q7v s => let x := x'.1; { tmps := #[.string s, undef, .pointer (some ⟨w.heap.size, 0, none⟩), .pointer (some ⟨w.heap.size + 1, 0, none⟩), .int .i64 i, .bool false, .pointer (some ⟨R + 1, 0, none⟩), .int .i64 x.1, .string x.2, .tuple #[.int .i64 i, .bool false], .string s, .tuple #[.int .i64 i, .bool false], .int .i64 i, .bool false, .bool false, undef, undef, undef, .string s, .int .i64 (s.size : Int), .agg #[.slice none 0 0, .int .i64 (s.size : Int), .string ⟨#[]⟩, .slice none 0 0, .string ⟨#[]⟩, .string ⟨#[]⟩, .slice none 0 0, .slice none 0 0, .slice none 0 0, .string ⟨#[]⟩], .pointer (some ⟨R, 0, none⟩), .string s, .func (.func 121) #[] #[.pointer (some ⟨R + 1 + 1, 0, none⟩)], .int .i64 x.1, .string x.2, undef, undef, undef, undef, undef, undef, undef, undef, undef, undef, undef, undef, undef, undef, undef, undef, undef, undef, undef, undef], defers := [] }) ?assign ?body ?done ?stop
 case assign =>
  rintro lp ⟨x, hxm⟩ W K hK
  simp only [k5q] at hK ⊢
  gi_wp2
  simpa using hK
 case body =>
  rintro lp pre ⟨x, hxm⟩ W ⟨v, m, i1, i2, i3, i4, i5, i6⟩ hlen
  obtain ⟨A, c, rfl⟩ := q0u i3
  have hpc := Tryz.underlying85
  obtain ⟨q, hq⟩ := z7u _ _ HL.out x hxm
  have hm : m.length < s.size + 2 := by
   have h1 := z2h _ _ i1
   rw [List.length_map] at h1
   have h2 := q5o s (s.size + 1) 0
   unfold q3e at hlen
   omega
  have KS0 := aq i5
  have HQ := aq hq
  have K_R := aq i2
  have O_V := aq i3
  have K_Q := aq i4
  have K_S := aq i5
  have B6 := aq i6
  have HM := aq i1
  have HLE := aq hm
  clear i1 i2 i3 i4 i5 i6 hq hm hlen
  refine wpIn_block ?_
  refine z3k (n := 14) (S := fun w' => w'.cell? ⟨R + 1, 0, none⟩ = some (.pointer (some ⟨R, 0, none⟩)) ∧ w'.cell? ⟨R, 0, none⟩ = some (.slice A m.length c)) (ds := [13]) (M 14 0) (fun ⟨_, _, h⟩ => h) hmo (by kernel_rfl) (by kernel_rfl) rfl ⟨(q0a (w := W.drew) K_Q.out 0).trans rfl, (q0a (w := W.drew) K_R.out 0).trans rfl⟩ (fun hHeld => ?_)
  obtain ⟨W1, hW1⟩ : ∃ W1, W1 = W.drew := ⟨_, rfl⟩
  rw [← hW1] at hHeld ⊢
  refine pw 5 31 (M 14 32) ?_
  refine pw 6 32 (M 14 96) ?_
  refine tw 0 26 (M 14 97) hHeld ?_
  refine tw 1 27 (M 14 99) hHeld ?_
  refine pw 2 28 (M 14 103) ?_
  refine pw 3 29 (M 14 111) ?_
  refine tw 4 30 (M 14 127) hHeld ?_
  clear hHeld
  replace K_R := dwK K_R hW1
  replace K_Q := dwK K_Q hW1
  replace K_S := dwK K_S hW1
  replace O_V := dwO O_V hW1
  replace B6 : q0c (Below R W0 W1) := by rw [hW1]; exact ⟨q0m B6.out⟩
  have KO : q0c (KeepsOthers W W1) := by rw [hW1]; exact ⟨KeepsOthers.drew W⟩
  clear hW1
  refine ow 7 (some 33) (M 14 255) fun K hK => ?_
  refine gow Tryz.func62 #[.string x.2] ?_
  with_reducible refine (q2a.calls x.2 q _ HQ.out).mono ?_
  rintro e W2 ⟨rfl, hb⟩
  refine ⟨_, rfl, ?_⟩
  replace B6 := lb B6 hb K_R.out (Nat.le_refl _)
  replace KO := aq (KO.out.trans (q5f hb))
  replace K_R := kb K_R hb
  replace K_Q := kb K_Q hb
  replace K_S := kb K_S hb
  replace O_V := aq (q1o O_V.out hb)
  clear hb
  refine hK.out _ _ ⟨(q0a K_Q.out 0).trans rfl, (q0a K_R.out 0).trans rfl⟩ (fun hHeld => ?_)
  clear hK K
  refine nw 33 ?_
  refine pw 8 34 (M 14 511) ?_
  refine ow 9 (some 35) (M 14 1023) fun K hK => ?_
  refine q2x (w1 := ?_) (v := ?_) (by rfl) rfl ?_ ?_
  rotate_left 2
  · go_simp
    constructor
    · rfl
    · rfl
  refine hK.out _ _ ⟨(q0a (((q0b (Below.refl W2.heap.size W2) _).block _ (q0g K_Q.out)).trans K_Q.out) 0).trans rfl, (q0a (((q0b (Below.refl W2.heap.size W2) _).block _ (q0g K_R.out)).trans K_R.out) 0).trans rfl⟩ (fun hHeld => ?_)
  clear hK K
  refine nw 35 ?_
  refine ow 10 (some 36) (M 14 2047) fun K hK => ?_
  refine q2u (w0 := W0) R (by rfl) (.tmp 30) (.tmp 35) 85 92 (.agg #[.int .i64 0, .string ⟨#[]⟩]) 2 24 rfl hpc (by kernel_rfl) rfl (by decide) (by decide) (.slice A m.length c) m.length (q8s m) [.int .i64 x.1, .string q] rfl ?hx rfl ?h1 O_V.out B6.out (Nat.le_of_lt (q0g K_R.out)) ?hl ?_
  (case hx => rfl)
  (case h1 => simp [Value.oneCell'])
  (case hl => have := HLE.out; omega)
  intro v1 W3 ho hb hg hat
  have N_R := aq (own_ne O_V.out K_R.out (by decide))
  replace KO := aq (KO.out.trans ((KeepsOthers.of_grownBy hg (fun k o e ho2 => by obtain ⟨cur, hc⟩ := z3f O_V.out k e; rw [hc] at ho2; cases ho2; rfl))))
  replace K_Q := aq ((hg.block _ (q0g K_Q.out) (own_ne O_V.out K_Q.out (by decide))).trans K_Q.out)
  replace K_S := aq ((hg.block _ (q0g K_S.out) (own_ne O_V.out K_S.out (by decide))).trans K_S.out)
  replace K_R := aq ((hg.block _ (q0g K_R.out) N_R.out).trans K_R.out)
  replace B6 := aq hb
  obtain ⟨A1, c1, rfl⟩ := q0u ho
  replace O_V := aq ho
  clear ho hb hg hat N_R
  refine hK.out _ _ ⟨(q0a K_Q.out 0).trans rfl, (q0a K_R.out 0).trans rfl⟩ (fun hHeld => ?_)
  clear hK K
  refine nw 36 ?_
  refine pw 11 37 (M 14 4095) ?_
  refine pw 12 38 (M 14 8191) ?_
  refine z3g (i := 13) (N := none) (M 14 16383) rfl rfl (by kernel_rfl) (by decide) (fun K hK => ?_)
  refine q2d (g := R) (off := 0) (cur := rdv (.slice A m.length c) s.size) (new := rdv (.slice A1 (m.length + 1) c1) s.size) (seg := [.slice A1 (m.length + 1) c1]) (u := .slice A1 (m.length + 1) c1) rfl rfl rfl rfl rfl rfl (by rfl) (by kernel_rfl) rfl rfl (Nat.le_of_ble_eq_true rfl) K_R.out ?_
  intro W4 hk hp
  replace KO := aq (KO.out.trans (k3u hp K_R.out))
  replace O_V := aq (q2j O_V.out fun k hv => hp.far k (fun e => own_ne O_V.out K_R.out (by decide) (by rw [hv, e])))
  replace K_Q := kp K_Q hp (by omega)
  replace K_S := kp K_S hp (by omega)
  replace B6 := bp B6 hp (Nat.le_refl _)
  replace K_R := aq hk
  clear hk hp
  refine hK.out _ _ ?_
  refine q4t (by kernel_rfl) ?_
  exact ⟨KO.out.from _, fun v hv => by
   have h1 : W.cell? ⟨R + 1 + 1, 0, none⟩ = some (.string s) := (q0a KS0.out 0).trans rfl
   have h2 : W4.cell? ⟨R + 1 + 1, 0, none⟩ = some (.string s) := (q0a K_S.out 0).trans rfl
   rw [h1] at hv
   rw [h2, hv], _, m ++ [(x.1, q)], by rw [List.map_append]; exact z3q _ _ x q HM.out HQ.out, K_R.out, by rw [List.length_append, z4a]; exact O_V.out, K_Q.out, K_S.out, B6.out⟩
 case done =>
  rintro D ys W hD hys ⟨v, m, i1, i2, i3, i4, i5, i6⟩ hK
  have i1' := i1
  rw [hys, HL.out] at i1'
  cases i1'
  obtain ⟨A, c, rfl⟩ := q0u i3
  obtain ⟨hPS, hc⟩ := k8h i3 i2 (by decide)
  have HPS := aq hPS
  have HC := aq hc
  have K_R := aq i2
  have B2 := aq (HB0.out.trans i6)
  have K_D := aq hK
  have q0 := (q0a i4 0).trans rfl
  have K_Q := aq i4
  clear i1 i2 i3 i4 i5 i6 hPS hc hK
  have hBR : Below w1.heap.size w1 W := by rw [← HRR.out]; exact B2.out
  have hgR : w1.heap.size ≤ R := by rw [HRR.out]; exact Nat.le_refl _
  simp at s1
  gi_wp2_with (first | (refine ⟨trivial, ?_⟩; gi_at_call 65; refine (callsIn_wide.2 (j1c k R A c s.size x l l2 w1 W hBR hgR HC.out K_R.out HPS.out r hr h0 hx hf2 hz r2 hr2 he sc y h1 h2)).mono ?_; rintro e W5 ⟨rfl, ⟨A5, c5, -, g2, -⟩, g4, g5⟩; obtain ⟨z0, z1, z2, z3, z4, z5, z6, z7, z8, z9⟩ := z2a g2; have q1 := (q0a ((g5.2 (R + 1) (Array.getElem?_eq_some_iff.1 K_Q.out).1 (by omega) (by simp)).trans K_Q.out) 0).trans rfl; have T5 := aq ((g4.block w.heap.size (by omega)).trans T1.out); have E5 := aq ((g4.block (w.heap.size + 1) (by omega)).trans T2.out); obtain ⟨a0, a1, a2, a3, a4, a5, a6, a7⟩ := cz8 T5.out; obtain ⟨b0, b1, b2, b3, b4, b5, b6, b7⟩ := fz8 T5.out; have e0 := (q0a E5.out 0).trans rfl; have e1 := q0e E5.out 0; have G4 := aq g4; have K_D5 := aq (g5.2 D (Array.getElem?_eq_some_iff.1 K_D.out).1 (fun e => by have := K_D.out; rw [e, K_R.out] at this; cases this) (by simp)); clear g2 g4 g5))
  obtain ⟨W6, hW6⟩ : ∃ W6, (((((((((W5.setCell ⟨w.heap.size, 0, none⟩ (.string r)).setCell ⟨w.heap.size, 1, none⟩ (.slice none 0 0)).setCell ⟨w.heap.size, 2, none⟩ (.string sc)).setCell ⟨w.heap.size, 3, none⟩ (.string y)).setCell ⟨w.heap.size, 4, none⟩ (.slice none 0 0)).setCell ⟨w.heap.size, 5, none⟩ (.slice none 0 0)).setCell ⟨w.heap.size, 6, none⟩ (.slice none 0 0)).setCell ⟨w.heap.size, 7, none⟩ (.string ⟨#[]⟩)).setCell ⟨w.heap.size + 1, 0, none⟩ .nilIface) = W6 := ⟨_, rfl⟩
  have T6 : W6.heap[w.heap.size]? = some (.cells #[.string r, .slice none 0 0, .string sc, .string y, .slice none 0 0, .slice none 0 0, .slice none 0 0, .string ⟨#[]⟩] 33 (0, 0)) := by
   rw [← hW6]
   exact q1e (q0l (q0l (q0l (q0l (q0l (q0l (q0l (q0l T5.out 0 _ rfl) 1 _ rfl) 2 _ rfl) 3 _ rfl) 4 _ rfl) 5 _ rfl) 6 _ rfl) 7 _ rfl) (by simp) _
  have E6 : W6.heap[w.heap.size + 1]? = some (.cells #[.nilIface] 55 (0, 0)) := by
   rw [← hW6]
   exact q0l (q1e (q1e (q1e (q1e (q1e (q1e (q1e (q1e E5.out (by simp) _) (by simp) _) (by simp) _) (by simp) _) (by simp) _) (by simp) _) (by simp) _) (by simp) _) 0 _ rfl
  have hB5 : Below w.heap.size w W5 := HB1.out.trans (G4.out.mono HB1.out.size)
  have B6' : Below w.heap.size w W6 := by
   rw [← hW6]
   exact q0r (q0r (q0r (q0r (q0r (q0r (q0r (q0r (q0r hB5 (Nat.le_refl _)) (Nat.le_refl _)) (Nat.le_refl _)) (Nat.le_refl _)) (Nat.le_refl _)) (Nat.le_refl _)) (Nat.le_refl _)) (Nat.le_refl _)) (by omega)
  have D6 : W6.heap[D]? = some (.deferred (some [])) := by
   have n1 : D ≠ w.heap.size := by omega
   have n2 : D ≠ w.heap.size + 1 := by omega
   rw [← hW6]
   exact (Below.heap_setCell _ _ _ _ n2).trans ((Below.heap_setCell _ _ _ _ n1).trans ((Below.heap_setCell _ _ _ _ n1).trans ((Below.heap_setCell _ _ _ _ n1).trans ((Below.heap_setCell _ _ _ _ n1).trans ((Below.heap_setCell _ _ _ _ n1).trans ((Below.heap_setCell _ _ _ _ n1).trans ((Below.heap_setCell _ _ _ _ n1).trans ((Below.heap_setCell _ _ _ _ n1).trans (K_D5.out.trans K_D.out)))))))))
  rw [hW6]
  clear hW6 a0 a1 a2 a3 a4 a5 a6 a7 b0 b1 b2 b3 b4 b5 b6 b7 z0 z1 z2 z3 z4 z5 z6 z7 z8 z9 e0 e1 q1
  refine ⟨by simp, .inr ⟨fun e => by simp [Fence.wide] at e, _, _, 64, #[.pointer (some ⟨w.heap.size, 0, none⟩), .pointer (some ⟨w.heap.size + 1, 0, none⟩)], rfl, by simp [go_sem], fun _ _ => trivial, ?_⟩⟩
  refine (z2w _ _ _ _).mono ?_
  rintro e u' w'' ⟨rfl, rfl, rfl⟩
  have a7 := q0b (Below.refl W6.heap.size W6) (.cells #[.nilIface] 94)
  have D7 := (a7.block _ (Array.getElem?_eq_some_iff.1 D6).1).trans D6
  have T7 := (a7.block _ (Array.getElem?_eq_some_iff.1 T6).1).trans T6
  have E7 := (a7.block _ (Array.getElem?_eq_some_iff.1 E6).1).trans E6
  have B7 := B6'.trans (a7.mono B6'.size)
  refine ⟨by simp [settle], .inl ⟨D, _, rfl, run_takeDeferred D7, ?_⟩⟩
  obtain ⟨W8, hW8⟩ : ∃ W8, W8 = (W6.alloc (.cells #[.nilIface] 94)).putObj D (.deferred none) := ⟨_, rfl⟩
  have T8 : W8.heap[w.heap.size]? = some (.cells #[.string r, .slice none 0 0, .string sc, .string y, .slice none 0 0, .slice none 0 0, .slice none 0 0, .string ⟨#[]⟩] 33 (0, 0)) := by rw [hW8]; exact (World.putObj_heap_other (by omega)).trans T7
  have E8 : W8.heap[w.heap.size + 1]? = some (.cells #[.nilIface] 55 (0, 0)) := by rw [hW8]; exact (World.putObj_heap_other (by omega)).trans E7
  obtain ⟨c0, c1, c2, c3, c4, c5, c6, c7⟩ := cz8 T8
  have e8 : W8.cell? ⟨w.heap.size + 1, 0, none⟩ = some .nilIface := (q0a E8 0).trans rfl
  have B8 : Below w.heap.size w W8 := by rw [hW8]; exact B7.trans (belowK_b (w := w) (Nat.le_refl _) _ D _ _ (by omega) D7 rfl rfl)
  rw [← hW8]
  show ∃ v, _ ∧ _
  refine ⟨.tuple #[.agg #[.string r, .slice none 0 0, .string sc, .string y, .slice none 0 0, .slice none 0 0, .slice none 0 0, .string ⟨#[]⟩], .nilIface], ?_, rfl, B8⟩
  simp [results, Tryz.results26, asAddr, c0, c1, c2, c3, c4, c5, c6, c7, e8, go_sem]
 case stop =>
  rintro D c pre W _ _ h _
  exact h.elim
end Go.Proofs.YtpmcfckechjppaaGreatDoor.Ps
namespace Go.Proofs.YtpmcfckechjppaaGreatDoor.Ps
open Go.RowKit Go.Shelf Go.Proofs.YtpmcfckechjppaaGreatDoorW.PrintWords Go.Proofs.YtpmcfckechjppaaGreatDoorW.PrintLast Go.Proofs.YtpmcfckechjppaaGreatDoorW.PrintMore Go.Proofs.YtpmcfckechjppaaGreatDoor.P Go.Proofs.YtpmcfckechjppaaGreatDoor.LikW
def Hold (p : Prop) : Prop := p
theorem Hold.of {p : Prop} (h : p) : Hold p := h
theorem Hold.on {p : Prop} (h : Hold p) : p := h
def Own (W : World) (base : Nat) (v : Value) (l : List ByteArray) : Prop := W.ownsRow base 9 1 v l.length (l.map Value.string)
theorem v1m {W : World} {base n c : Nat} {e : TypeId} {size : Nat} {V : Option Addr} {xs : List Value} (h : W.ownsRow base e size (.slice V n c) n xs) : n ≤ c := by
 obtain ⟨_, ⟨e1, e2⟩ | ⟨g, cap, cur, e1, _, _, h3, _⟩⟩ := h
 · omega
 · cases e1; exact h3
theorem aZ {W : World} {k : Nat} {o : Obj} (h : k = W.heap.size) : (W.alloc o).heap[k]? = some o := by subst h; exact World.alloc_heap_new W o
theorem aN {W : World} {k : Nat} {o x : Obj} (h : W.heap[k]? = some x) : (W.alloc o).heap[k]? = some x := ((q0b (Below.refl W.heap.size W) o).block k (Array.getElem?_eq_some_iff.1 h).1).trans h
theorem v3h {W : World} {base : Nat} {v : Value} {l : List ByteArray} (h : Own W base v l) : ∃ A c, v = .slice A l.length c ∧ l.length ≤ c ∧ (l = [] ∨ ∃ b, A = some ⟨b, 0, none⟩ ∧ b < W.heap.size ∧ ∀ (j : Nat) x, l[j]? = some x → W.cell? ⟨b, 0 + j, none⟩ = some (.string x)) := by
 obtain ⟨A, c, rfl⟩ := q0u h
 have hc := v1m h
 refine ⟨A, c, rfl, hc, ?_⟩
 obtain ⟨_, ⟨e1, e2⟩ | ⟨g, cap, cur, e1, h1, h2, h3, h4, h5, h6⟩⟩ := h
 · exact .inl (List.eq_nil_of_length_eq_zero e2)
 · cases e1
   refine .inr ⟨g, rfl, (Array.getElem?_eq_some_iff.1 h2).1, fun j x hx => ?_⟩
   have hj := (List.getElem?_eq_some_iff.1 hx).1
   have q : (l.map Value.string)[j]? = some (.string x) := by rw [List.getElem?_map, hx]; rfl
   rw [← h6, List.getElem?_take, if_pos (by omega), Array.getElem?_toList] at q
   rw [Nat.zero_add]
   exact (q0a h2 _).trans q
def q8d (l : List ByteArray) : ByteArray := ⟨(Lib.join (l.map (·.data.toList)) [45]).toArray⟩
theorem v7y (base : Nat) (v : Value) (l : List ByteArray) (w : World) (hO : Own w base v l) (hl : l.length ≤ 1000000) (hs : (Lib.join (l.map (·.data.toList)) [45]).length ≤ 140737488355328) : Calls Tryz.prog 74 #[v] w fun e w' => e = .returned (.string (q8d l)) ∧ Below w.heap.size w w' := by
 obtain ⟨A, c, rfl, hc, hn | ⟨b, rfl, hb, hcell⟩⟩ := v3h hO
 · subst hn
   clear hO
   go_enter Tryz.func74, Tryz.ntmps74
   go_wp2_with (go_at_call 147; refine (Tryz.strings_Join_none _ _ _ _).mono ?_; rintro e w' ⟨rfl, rfl⟩)
   go_ret
   exact ⟨by unfold q8d; rfl, Below.refl _ _⟩
 · have H := aq hcell
   clear hcell hO
   go_enter Tryz.func74, Tryz.ntmps74
   go_wp2_with (go_at_call 147; refine (Tryz.strings_Join b 0 c l ⟨#[45]⟩ _ H.out hb (by omega) hc hs).mono ?_; rintro e w' ⟨rfl, hB⟩)
   go_ret
   exact ⟨rfl, hB⟩
section
variable {F : Fence} {n : Nat} {ops : Array Oper} {rest : List Oper} {o : Oper} {a : Act} {Q : Exit → Act → World → Prop}
theorem k9m {w0 W : World} (base : Nat) (hgd : o.guard = none) (s x : Operand) (ho : o.op = .call { callee := .builtin .append, args := #[s, x], argTypes := #[26, 26] }) (v : Value) (L : List ByteArray) (t : ByteArray) (hs : a.eval s = v) (hx : a.eval x = .slice (some ⟨W.heap.size, 0, none⟩) 1 1) (HO : Own W base v L) (HB : Below base w0 W) (hbase : base ≤ W.heap.size) (hl : L.length ≤ 1000000)
 (h : ∀ V c w1, Own w1 base (.slice V (L.length + 1) c) (L ++ [t]) → Below base w0 w1 → W.grownBy w1 v.ownBlock → ((Value.slice V (L.length + 1) c).ownBlock = v.ownBlock ∨ ∃ b, (Value.slice V (L.length + 1) c).ownBlock = some b ∧ W.heap.size ≤ b) → wpListIn F n Tryz.prog ops Q rest (a.put o.dst (.slice V (L.length + 1) c)) w1) :
 wpListIn F n Tryz.prog ops Q (o :: rest) a (W.alloc (.cells #[.string t] 9)) := by
 have hinfo : (Tryz.prog.info? 9).map (fun i => (i.zero, i.size, i.bytes)) = some (some (.string ⟨#[]⟩), 1, 16) := by kernel_rfl
 obtain ⟨i0, hi, hzz⟩ := Option.map_eq_some_iff.1 hinfo
 simp only [Prod.mk.injEq] at hzz
 obtain ⟨hz0, hz1, hz2⟩ := hzz
 refine wpListIn_append_own_at (w := W.alloc (.cells #[.string t] 9)) hgd s x 26 ho base 9 i0 (.string ⟨#[]⟩) 1 16 Tryz.underlying26 hi hz0 hz1 hz2 rfl (by decide) v L.length (L.map Value.string) hs (World.ownsRow.alloc HO _) ⟨W.heap.size, 0, none⟩ 1 1 [.string t] hx rfl
  (cell_one_new _ _ _) (by simp [Value.oneCell']) (by simp only [maxLen]; omega) (by omega) (by simp; omega) ?_
 intro v1 w1 hown hg _ hat
 obtain ⟨V, c, rfl⟩ := q0u hown
 refine h V c w1 (by unfold Own; rw [List.length_append, List.map_append]; exact hown) ((HB.alloc hbase _).grown hg (by simp; omega) (q5i HO)) (World.grownBy.trans (World.grownBy_alloc W _ _) hg) ?_
 rcases hat with hat | hat
 · exact .inl hat
 · exact .inr ⟨_, hat, by simp⟩
end
def q3i (l : List ByteArray) : List ByteArray := l.filter fun s => !s.toList.isEmpty
theorem v4z (l : List ByteArray) (s : ByteArray) : q3i (l ++ [s]) = q3i l ++ (if s.toList.isEmpty = true then [] else [s]) := by
 unfold q3i
 rw [List.filter_append]
 cases h : s.toList.isEmpty <;> simp [h]
theorem k9h (base B : Nat) (A : Nat) (l : List ByteArray) (hl : l.length ≤ 2) (pre : List ByteArray) (hp : pre.length ≤ 1000) (v : Value) (w0 w : World) (hB : Below base w0 w) (hA : w.heap[A]? = some (.cells (l.map Value.string).toArray 9 (0, 0))) (hAB : A ≠ B) (hAv : some A ≠ v.ownBlock) (hV : w.heap[B]? = some (.cells #[v] 26 (0, 0))) (hO : Own w base v pre) (hb : base ≤ B) :
 Calls Tryz.prog 148 #[.slice (some ⟨A, 0, none⟩) l.length l.length, .pointer (some ⟨B, 0, none⟩)] w fun e w' => e = .returned (.tuple #[]) ∧ ∃ v', w'.heap[B]? = some (.cells #[v'] 26 (0, 0)) ∧ Own w' base v' (pre ++ q3i l) ∧ Below base w0 w' ∧ q0j w w' B v.ownBlock ∧ (v'.ownBlock = v.ownBlock ∨ ∃ b, v'.ownBlock = some b ∧ w.heap.size ≤ b) := by
 have hus := Tryz.underlying26
 have HA := aq hA
 have HV := aq hV
 have HO := aq hO
 have HB := aq hB
 clear hA hV hO hB
 go_enter Tryz.func148, Tryz.ntmps148
 go_wp2
 go_loopw [7, 4] (fun vi vs wr => ∃ (i : Nat) (v' : Value), vi = .int .i64 (i : Int) ∧ i ≤ l.length ∧ q0c (wr.heap[B]? = some (.cells #[v'] 26 (0, 0))) ∧ q0c (Own wr base v' (pre ++ q3i (l.take i))) ∧ q0c (Below base w0 wr) ∧ q0c (q0j w wr B v.ownBlock) ∧ q0c (v'.ownBlock = v.ownBlock ∨ ∃ b, v'.ownBlock = some b ∧ w.heap.size ≤ b)) (fun vi _ _ => l.length - (intOf vi).toNat)
 case atStart => exact ⟨0, v, rfl, Nat.zero_le _, HV, by simpa [q3i] using HO, HB, ⟨q0j.refl _ _ _⟩, ⟨.inl rfl⟩⟩
 case round =>
  obtain ⟨i, v', rfl, hi, K_B, O_V, B0, K_W, H_V⟩ := hrel
  clear HV HO HB
  obtain ⟨L, hL⟩ : ∃ L, L = pre ++ q3i (l.take i) := ⟨_, rfl⟩
  rw [← hL] at O_V
  have HL := aq hL
  clear hL
  obtain ⟨V1, c1, e1⟩ := q0u O_V.out
  subst e1
  by_cases hlt : i < l.length
  · obtain ⟨s, hs⟩ : ∃ s, l[i]? = some s := ⟨_, List.getElem?_eq_getElem hlt⟩
    have hz : wr.cell? ⟨A, i, none⟩ = some (.string s) := by
     have h1 := (K_W.out.2 A (Array.getElem?_eq_some_iff.1 HA.out).1 hAB hAv).trans HA.out
     rw [q0a h1 i]
     simp [hs]
    have ht : l.take (i + 1) = l.take i ++ [s] := by rw [List.take_add_one, hs]; rfl
    have HT := aq ht
    have d1 : decide ((i : Int) < (l.length : Int)) = true := decide_eq_true (by omega)
    have m0 : (0 : Int) ≤ (i : Int) := by omega
    have m1 : (i : Int) < (l.length : Int) := by omega
    have m2 : i < l.length := hlt
    have hb1 := (q0a K_B.out 0).trans rfl
    have hf1 := v4z (l.take i) s
    have HF := aq hf1
    clear ht hf1 hs
    cases hse : s.toList.isEmpty with
    | true =>
     have HS := aq hse
     go_wp2
     go_roundw
     case rel => exact ⟨i + 1, _, by congr 1, by omega, K_B, by rw [HT.out, HF.out, if_pos HS.out, List.append_nil, ← HL.out]; exact O_V, B0, K_W, H_V⟩
     case measure => simp [intOf]; omega
    | false =>
     have HS := aq hse
     have hn : L.length ≤ 1002 := by
      have h1 : (q3i (l.take i)).length ≤ (l.take i).length := List.length_filter_le _ _
      rw [List.length_take] at h1
      rw [HL.out, List.length_append]
      omega
     have HN := aq hn
     have O_W : q0c (wr.ownsRow base 9 1 (.slice V1 L.length c1) L.length (L.map Value.string)) := O_V
     have LB := aq (Nat.le_trans hb (Nat.le_of_lt (q0g K_B.out)))
     clear hn
     go_wp2_with (first
      | ((with_reducible refine q1d (b := .append) (xs := #[.tmp 13, .tmp 15]) rfl ?_); at_builtin; refine q2f (w0 := w0) base rfl (.tmp 13) (.tmp 15) 26 9 (.string ⟨#[]⟩) 1 16 rfl hus (by kernel_rfl) rfl (by decide) (by decide) (.slice V1 L.length c1) L.length (L.map Value.string) [.string s] rfl ?hx rfl ?h1 O_W.out B0.out LB.out ?hl ?_; (case hx => rfl); (case h1 => simp [Value.oneCell']); (case hl => have := HN.out; omega); intro v2 w2 ho hb2 hg hat; obtain ⟨V2, c2, rfl⟩ := q0u ho; have O_2 := aq ho; have B2 := aq hb2; have K_B2 := aq ((hg.block _ (q0g K_B.out) (own_ne O_W.out K_B.out (by decide))).trans K_B.out); have KG := aq (q0j.z2s hg B); have HAT := aq hat; clear ho hb2 hg hat hb1; have hb1 := (q0a K_B2.out 0).trans rfl; have hf0 := q0e K_B2.out 0))
     go_roundw
     case rel =>
      have hl2 : pre ++ q3i (l.take (i + 1)) = L ++ [s] := by rw [HT.out, HF.out, if_neg (by rw [HS.out]; decide), ← List.append_assoc, ← HL.out]
      refine ⟨i + 1, .slice V2 (L.length + 1) c2, by congr 1, by omega, ⟨q0l K_B2.out 0 _ rfl⟩, ⟨?_⟩, ⟨Below.setCell B2.out (p := ⟨B, 0, none⟩) hb _⟩, ⟨(K_W.out.trans KG.out H_V.out).q8c 0 _⟩, ⟨?_⟩⟩
      · rw [hl2]
        unfold Own
        rw [List.length_append, List.map_append]
        exact q2j O_2.out fun k hv => Below.heap_setCell _ _ _ _ (fun e => own_ne O_2.out K_B2.out (by decide) (by rw [hv, e]))
      · rcases HAT.out with h | ⟨b, h1, h2⟩
        · rw [h]; exact H_V.out
        · exact .inr ⟨b, h1, Nat.le_trans K_W.out.1 h2⟩
     case measure => simp [intOf]; omega
  · obtain rfl : i = l.length := by omega
    have d1 : decide ((l.length : Int) < (l.length : Int)) = false := decide_eq_false (by omega)
    go_wp2
    go_end0
    refine ⟨rfl, _, K_B.out, ?_, B0.out, K_W.out, H_V.out⟩
    have := O_V.out
    have hq : L = pre ++ q3i l := by rw [HL.out, List.take_length]
    rw [← hq]
    exact this
theorem v2g (T : TypeId) (V : Option Addr) (n c : Nat) (hc : n ≤ c) (w : World) : (Builtin.append_ #[26, 26] T #[.slice V n c, .slice none 0 0]).run Tryz.prog w = .ok (.slice V n c) w := by
 have hus := Tryz.underlying26
 have hz : storeCells = storeCells := rfl
 cases V with
 | none => simp [hc, go_sem, Builtin.append_, hus, Builtin.lenOf, Builtin.firstCells]
 | some ad => simp [hc, go_sem, Builtin.append_, hus, Builtin.lenOf, Builtin.firstCells, storeCells]
section
variable {ops : Array Oper} {rest : List Oper} {o : Oper} {a : Act} {Q : Exit → Act → World → Prop}
theorem v8t {w : World} (hgd : o.guard = none) (s x : Operand) (ho : o.op = .call { callee := .builtin .append, args := #[s, x], argTypes := #[26, 26] }) (V : Option Addr) (n c : Nat) (hs : a.eval s = .slice V n c) (hx : a.eval x = .slice none 0 0) (hc : n ≤ c)
 (h : wpList Tryz.prog ops Q rest (a.put o.dst (.slice V n c)) w) : wpList Tryz.prog ops Q (o :: rest) a w := by
 have hr := v2g o.type V n c hc w
 refine wpList_plain hgd fun K hK => ?_
 unfold Oper.wp execOp
 simp only [ho, resolve, invoke, builtin, Sem.run_bind, Sem.run_pure, Result.andThen_ok, List.map_toArray, List.map_cons, List.map_nil, hs, hx, hr]
 exact hK _ _ h
end
def T3 (a b c : ByteArray) : Value := .agg #[.string a, .slice none 0 0, .string b, .string c, .slice none 0 0, .slice none 0 0, .slice none 0 0, .string ⟨#[]⟩]
def T3c (a b c : ByteArray) : Array Value := #[.string a, .slice none 0 0, .string b, .string c, .slice none 0 0, .slice none 0 0, .slice none 0 0, .string ⟨#[]⟩]
theorem z0n (a b c : ByteArray) (w : World) : Calls Tryz.prog 75 #[T3 a b c] w fun e w' => ∃ v, e = .returned v ∧ Own w' w.heap.size v (q3i [a, b, c]) ∧ Below w.heap.size w w' := by
 have hut := Tryz.underlying33
 have hmf : ∀ (fn : Fn) (first cap : Array Value) (w : World), (Instr.makeFunc fn first cap).run Tryz.prog w = .ok (.func fn first cap) w := fun _ _ _ _ => rfl
 have eg := enters_of Tryz.func148 (by kernel_rfl) rfl
 unfold Enters at eg
 obtain ⟨B, hBB⟩ : ∃ B, B = w.heap.size := ⟨_, rfl⟩
 have HBB := aq hBB
 clear hBB
 unfold T3
 go_enter Tryz.func75, Tryz.ntmps75
 go_wp2_with (first | (go_at_call 148; fail))
 obtain ⟨W3, hW3⟩ : ∃ W3, W3 = (((w.alloc (.cells (T3c a b c) 33)).alloc (.cells #[.slice none 0 0] 26)).alloc (.cells #[.string a] 9)) := ⟨_, rfl⟩
 have B3 : Below w.heap.size w W3 := by rw [hW3]; exact q0b (q0b (q0b (Below.refl _ _) _) _) _
 have s3 : W3.heap.size = w.heap.size + 3 := by rw [hW3]; simp
 have t3 : W3.heap[w.heap.size]? = some (.cells (T3c a b c) 33 (0, 0)) := by rw [hW3]; exact aN (aN (aZ rfl))
 have b3 : W3.heap[w.heap.size + 1]? = some (.cells #[.slice none 0 0] 26 (0, 0)) := by rw [hW3]; exact aN (aZ (by simp))
 have a3 : W3.heap[w.heap.size + 2]? = some (.cells #[.string a] 9 (0, 0)) := by rw [hW3]; exact aZ (by simp)
 have e3 := hW3.symm
 unfold T3c at e3
 rw [e3]
 clear e3 hW3
 refine (k9h w.heap.size (w.heap.size + 1) (w.heap.size + 2) [a] (by simp) [] (by simp) (.slice none 0 0) w W3 B3 a3 (by omega) (by simp [Value.ownBlock]) b3 (q3a _ _ _ _) (by omega)).mono ?_
 rintro e W4 ⟨rfl, v4, b4, o4, B4, k4, h4⟩
 obtain ⟨V4, c4, rfl⟩ := q0u o4
 have t4 := (k4.2 w.heap.size (by omega) (by omega) (by simp [Value.ownBlock])).trans t3
 obtain ⟨L4, hL4⟩ : ∃ L, L = [] ++ q3i [a] := ⟨_, rfl⟩
 rw [← hL4] at o4 b4 h4
 have le4 := v1m o4
 have O4 := aq o4
 have K4 := aq b4
 have T4 := aq t4
 have BB4 := aq B4
 have HL4 := aq hL4
 have y4 := (q0a b4 0).trans rfl
 have f4 := q0e b4 0
 obtain ⟨z0, z1, z2, z3, z4, z5, z6, z7⟩ := cz8 t4
 clear b3 a3 t3 B3 b4 o4 B4 k4 h4 t4 hL4
 go_wp2_with (first
  | (go_at_call 148; fail)
  | ((with_reducible refine q1d (b := .append) (xs := #[.tmp 19, .tmp 21]) rfl ?_); at_builtin; refine v8t rfl (.tmp 19) (.tmp 21) rfl V4 L4.length c4 rfl rfl le4 ?_))
 have lA : W4.heap.size = W4.heap.size := rfl
 have sz4 : w.heap.size + 1 < W4.heap.size := q0g K4.out
 obtain ⟨W5, hW5⟩ : ∃ W5, W5 = ((W4.setCell ⟨w.heap.size + 1, 0, none⟩ (.slice V4 L4.length c4)).alloc (.cells #[.string b, .string c] 9)) := ⟨_, rfl⟩
 have B5 : Below w.heap.size w W5 := by rw [hW5]; exact q0b (q0r BB4.out (by omega)) _
 have t5 : W5.heap[w.heap.size]? = some (.cells (T3c a b c) 33 (0, 0)) := by rw [hW5]; exact aN (q1e T4.out (by simp) _)
 have b5 : W5.heap[w.heap.size + 1]? = some (.cells #[.slice V4 L4.length c4] 26 (0, 0)) := by rw [hW5]; exact aN (q0l K4.out 0 _ rfl)
 have a5 : W5.heap[W4.heap.size]? = some (.cells ([b, c].map Value.string).toArray 9 (0, 0)) := by rw [hW5]; exact aZ (by simp [World.setCell])
 have o5 : Own W5 w.heap.size (.slice V4 L4.length c4) L4 := by
  rw [hW5]
  exact World.ownsRow.alloc (q2j O4.out fun k hv => Below.heap_setCell _ _ _ _ (fun e => own_ne O4.out K4.out (by decide) (by rw [hv, e]))) _
 have n5 : some W4.heap.size ≠ (Value.slice V4 L4.length c4).ownBlock := fun e => by have := q8a O4.out _ e.symm; omega
 have hl4 : L4.length ≤ 1000 := by
  rw [HL4.out, List.nil_append]
  exact Nat.le_trans (List.length_filter_le _ _) (by simp)
 rw [← hW5]
 have HW5 := aq hW5
 clear hW5 y4 f4 z0 z1 z2 z3 z4 z5 z6 z7 lA
 refine (k9h w.heap.size (w.heap.size + 1) W4.heap.size [b, c] (by simp) L4 hl4 (.slice V4 L4.length c4) w W5 B5 a5 (by omega) n5 b5 o5 (by omega)).mono ?_
 rintro e W6 ⟨rfl, v6, b6, o6, B6, k6, h6⟩
 obtain ⟨V6, c6, rfl⟩ := q0u o6
 have nt : some w.heap.size ≠ (Value.slice V4 L4.length c4).ownBlock := fun e => own_ne O4.out T4.out (by decide) e
 have t6 := (k6.2 w.heap.size (Array.getElem?_eq_some_iff.1 t5).1 (by omega) nt).trans t5
 obtain ⟨L6, hL6⟩ : ∃ L, L = L4 ++ q3i [b, c] := ⟨_, rfl⟩
 rw [← hL6] at o6 b6 h6
 have le6 := v1m o6
 have O6 := aq o6
 have K6 := aq b6
 have BB6 := aq B6
 have HL6 := aq hL6
 have y6 := (q0a b6 0).trans rfl
 have f6 := q0e b6 0
 obtain ⟨z0, z1, z2, z3, z4, z5, z6, z7⟩ := cz8 t6
 clear b5 a5 t5 B5 b6 o6 B6 k6 h6 t6 hL6 o5 n5 nt
 go_wp2_with (first
  | ((with_reducible refine q1d (b := .append) (xs := #[.tmp 30, .tmp 32]) rfl ?_); at_builtin; refine v8t rfl (.tmp 30) (.tmp 32) rfl V6 L6.length c6 rfl rfl le6 ?_))
 refine wp_loop_once ?_
 go_wp2
 go_ret
 refine ⟨.slice V6 L6.length c6, rfl, ?_, q0r BB6.out (by omega)⟩
 have hq : q3i [a, b, c] = L6 := by
  rw [HL6.out, HL4.out]
  unfold q3i
  rw [List.nil_append, ← List.filter_append]
  rfl
 rw [hq]
 exact q2j O6.out fun k hv => Below.heap_setCell _ _ _ _ (fun e => own_ne O6.out K6.out (by decide) (by rw [hv, e]))
end Go.Proofs.YtpmcfckechjppaaGreatDoor.Ps
