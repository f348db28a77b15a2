/-
 DERIVED: THE SHELF's CONTRACTS AT THIS DUMP, IN PLAIN WORDS (tools/lay-plain.mjs out of 'TryzShelf.lean', which tools/lay-shelf.mjs wrote): THE SAME DECLARATIONS UNDER THE SAME NAMES: 'import', 'namespace', 'open', 'def', 'theorem' AND NOTHING ELSE: no command of the shelf's: FOR A HAND-IN. Each laying: the table of numbers ('.._ren') and one theorem, a field a fact of the dump's own or the kernel's comparison; each contract: ONE APPLICATION.
 Conditions: none.
-/
import Derived.Shelf.Small.Strs
import Derived.Shelf.Small.Wraps
import Derived.Shelf.Strings.Search1
import Derived.Shelf.Strings.Search2
import Derived.Shelf.Strings.Search3
import Derived.Shelf.Strings.Cut
import Derived.Shelf.Strings.Count
import Derived.Shelf.LaysM
import Derived.Shelf.Strings.Prefix
import Derived.Shelf.Strings.Split
import Derived.Test.YtjlnoogcggdhkaaGreatDoorProg
set_option maxRecDepth 100000
set_option maxHeartbeats 32000000
set_option linter.all false
namespace Go.Proofs
open Go.Shelf
def Tryz.lays137_ren : Go.Shelf.Ren := ⟨fun | 137 => 295 | 217 => 302 | 266 => 308 | n => n, fun | 9 => 9 | 5 => 5 | 3 => 3 | n => n, fun | n => n⟩
theorem Tryz.lays137 : Go.Proofs.Lays.n137 Tryz.prog Tryz.lays137_ren := {
 mixed := by kernel_rfl
 f137 := Tryz.func295.trans (congrArg some (by kernel_rfl))
 f217 := Tryz.func302.trans (congrArg some (by kernel_rfl))
 f266 := Tryz.func308.trans (congrArg some (by kernel_rfl))
 t3 := Tryz.underlying3
 a3 := Tryz.isAgg3
 z3 := Tryz.sizeOf3
 v3 := Tryz.zeroValue3
 t5 := Tryz.underlying5
 a5 := Tryz.isAgg5
 z5 := Tryz.sizeOf5
 v5 := Tryz.zeroValue5
 t9 := Tryz.underlying9
 a9 := Tryz.isAgg9
 z9 := Tryz.sizeOf9
 v9 := Tryz.zeroValue9 }
open Go.RowKit in
theorem Tryz.strings_IndexByte (s : ByteArray) (c : Int) (w : World) :
  Calls Tryz.prog 295 #[.string s, .int .u8 c] w fun e w' => e = .returned (.int .i64 (Lib.indexByte s.data.toList c.toNat.toUInt8)) ∧ w' = w := Any.strings_IndexByte Tryz.lays137 s c w
def Tryz.lays103_ren : Go.Shelf.Ren := ⟨fun | 103 => 275 | 210 => 298 | 206 => 301 | n => n, fun | 9 => 9 | 4 => 4 | 24 => 304 | 3 => 3 | n => n, fun | n => n⟩
theorem Tryz.lays103 : Go.Proofs.Lays.n103 Tryz.prog Tryz.lays103_ren := {
 mixed := by kernel_rfl
 f103 := Tryz.func275.trans (congrArg some (by kernel_rfl))
 f206 := Tryz.func301.trans (congrArg some (by kernel_rfl))
 f210 := Tryz.func298.trans (congrArg some (by kernel_rfl))
 t3 := Tryz.underlying3
 a3 := Tryz.isAgg3
 z3 := Tryz.sizeOf3
 v3 := Tryz.zeroValue3
 t4 := Tryz.underlying4
 a4 := Tryz.isAgg4
 z4 := Tryz.sizeOf4
 v4 := Tryz.zeroValue4
 t9 := Tryz.underlying9
 a9 := Tryz.isAgg9
 z9 := Tryz.sizeOf9
 v9 := Tryz.zeroValue9
 t24 := Tryz.underlying304
 a24 := Tryz.isAgg304
 z24 := Tryz.sizeOf304
 v24 := Tryz.zeroValue304 }
open Go.RowKit in
theorem Tryz.strings_CutPrefix (s p : ByteArray) (w : World) :
  Calls Tryz.prog 275 #[.string s, .string p] w fun e w' => e = .returned (.tuple #[.string ⟨(Lib.trimPrefix s.data.toList p.data.toList).toArray⟩, .bool (Lib.hasPrefix s.data.toList p.data.toList)]) ∧ w' = w := Any.strings_CutPrefix Tryz.lays103 s p w
def Tryz.lays144_ren : Go.Shelf.Ren := ⟨fun | 144 => 276 | 143 => 299 | 219 => 296 | 217 => 302 | 225 => 303 | 224 => 304 | 267 => 305 | 266 => 308 | 314 => 309 | n => n, fun | 9 => 9 | 4 => 4 | 3 => 3 | 5 => 5 | 46 => 156 | 146 => 320 | 51 => 209 | n => n, fun | 1 => 0 | n => n⟩
theorem Tryz.lays144 : Go.Proofs.Lays.n144 Tryz.prog Tryz.lays144_ren := {
 mixed := by kernel_rfl
 f143 := Tryz.func299.trans (congrArg some (by kernel_rfl))
 f144 := Tryz.func276.trans (congrArg some (by kernel_rfl))
 f217 := Tryz.func302.trans (congrArg some (by kernel_rfl))
 f219 := Tryz.func296.trans (congrArg some (by kernel_rfl))
 f224 := Tryz.func304.trans (congrArg some (by kernel_rfl))
 f225 := Tryz.func303.trans (congrArg some (by kernel_rfl))
 f266 := Tryz.func308.trans (congrArg some (by kernel_rfl))
 f267 := Tryz.func305.trans (congrArg some (by kernel_rfl))
 f314 := Tryz.func309.trans (congrArg some (by kernel_rfl))
 t3 := Tryz.underlying3
 a3 := Tryz.isAgg3
 z3 := Tryz.sizeOf3
 v3 := Tryz.zeroValue3
 t4 := Tryz.underlying4
 a4 := Tryz.isAgg4
 z4 := Tryz.sizeOf4
 v4 := Tryz.zeroValue4
 t5 := Tryz.underlying5
 a5 := Tryz.isAgg5
 z5 := Tryz.sizeOf5
 v5 := Tryz.zeroValue5
 t9 := Tryz.underlying9
 a9 := Tryz.isAgg9
 z9 := Tryz.sizeOf9
 v9 := Tryz.zeroValue9
 t46 := Tryz.underlying156
 a46 := Tryz.isAgg156
 z46 := Tryz.sizeOf156
 v46 := Tryz.zeroValue156
 t51 := Tryz.underlying209
 a51 := Tryz.isAgg209
 z51 := Tryz.sizeOf209
 v51 := Tryz.zeroValue209
 t146 := Tryz.underlying320
 a146 := Tryz.isAgg320
 z146 := Tryz.sizeOf320
 v146 := Tryz.zeroValue320
 g1 := by kernel_rfl }
open Go.RowKit Go.Lib in
theorem Tryz.strings_Contains (s sub : ByteArray) (m : Int) (w : World) (hs : s.size < 4294967281) (hm : w.cell? ⟨0, 0, none⟩ = some (.int .i64 m)) :
  Calls Tryz.prog 276 #[.string s, .string sub] w fun e w' => e = .returned (.bool (Lib.contains s.data.toList sub.data.toList)) ∧ w' = w := Any.strings_Contains Tryz.lays144 s sub m w hs hm
def Tryz.lays145_ren : Go.Shelf.Ren := ⟨fun | 145 => 233 | 220 => 272 | 219 => 296 | 217 => 302 | 225 => 303 | 224 => 304 | 267 => 305 | 266 => 308 | 314 => 309 | n => n, fun | 9 => 9 | 4 => 4 | 59 => 277 | 3 => 3 | 5 => 5 | 46 => 156 | 146 => 320 | 51 => 209 | n => n, fun | 1 => 0 | n => n⟩
theorem Tryz.lays145 : Go.Proofs.Lays.n145 Tryz.prog Tryz.lays145_ren := {
 mixed := by kernel_rfl
 f145 := Tryz.func233.trans (congrArg some (by kernel_rfl))
 f217 := Tryz.func302.trans (congrArg some (by kernel_rfl))
 f219 := Tryz.func296.trans (congrArg some (by kernel_rfl))
 f220 := Tryz.func272.trans (congrArg some (by kernel_rfl))
 f224 := Tryz.func304.trans (congrArg some (by kernel_rfl))
 f225 := Tryz.func303.trans (congrArg some (by kernel_rfl))
 f266 := Tryz.func308.trans (congrArg some (by kernel_rfl))
 f267 := Tryz.func305.trans (congrArg some (by kernel_rfl))
 f314 := Tryz.func309.trans (congrArg some (by kernel_rfl))
 t3 := Tryz.underlying3
 a3 := Tryz.isAgg3
 z3 := Tryz.sizeOf3
 v3 := Tryz.zeroValue3
 t4 := Tryz.underlying4
 a4 := Tryz.isAgg4
 z4 := Tryz.sizeOf4
 v4 := Tryz.zeroValue4
 t5 := Tryz.underlying5
 a5 := Tryz.isAgg5
 z5 := Tryz.sizeOf5
 v5 := Tryz.zeroValue5
 t9 := Tryz.underlying9
 a9 := Tryz.isAgg9
 z9 := Tryz.sizeOf9
 v9 := Tryz.zeroValue9
 t46 := Tryz.underlying156
 a46 := Tryz.isAgg156
 z46 := Tryz.sizeOf156
 v46 := Tryz.zeroValue156
 t51 := Tryz.underlying209
 a51 := Tryz.isAgg209
 z51 := Tryz.sizeOf209
 v51 := Tryz.zeroValue209
 t59 := Tryz.underlying277
 a59 := Tryz.isAgg277
 z59 := Tryz.sizeOf277
 v59 := Tryz.zeroValue277
 t146 := Tryz.underlying320
 a146 := Tryz.isAgg320
 z146 := Tryz.sizeOf320
 v146 := Tryz.zeroValue320
 g1 := by kernel_rfl }
open Go.RowKit Go.Lib in
theorem Tryz.strings_Cut (s sep : ByteArray) (m : Int) (w : World) (hs : s.size < 4294967281) (hm : w.cell? ⟨0, 0, none⟩ = some (.int .i64 m)) :
  Calls Tryz.prog 233 #[.string s, .string sep] w fun e w' => e = .returned (.tuple #[.string ⟨(Lib.cut s.data.toList sep.data.toList).1.toArray⟩, .string ⟨(Lib.cut s.data.toList sep.data.toList).2.1.toArray⟩, .bool (Lib.cut s.data.toList sep.data.toList).2.2]) ∧ ∃ n, w' = w.drewN n := Any.strings_Cut Tryz.lays145 s sep m w hs hm
def Tryz.lays100_ren : Go.Shelf.Ren := ⟨fun | 100 => 274 | 207 => 297 | n => n, fun | 9 => 9 | 4 => 4 | 3 => 3 | n => n, fun | n => n⟩
theorem Tryz.lays100 : Go.Proofs.Lays.n100 Tryz.prog Tryz.lays100_ren := {
 mixed := by kernel_rfl
 f100 := Tryz.func274.trans (congrArg some (by kernel_rfl))
 f207 := Tryz.func297.trans (congrArg some (by kernel_rfl))
 t3 := Tryz.underlying3
 a3 := Tryz.isAgg3
 z3 := Tryz.sizeOf3
 v3 := Tryz.zeroValue3
 t4 := Tryz.underlying4
 a4 := Tryz.isAgg4
 z4 := Tryz.sizeOf4
 v4 := Tryz.zeroValue4
 t9 := Tryz.underlying9
 a9 := Tryz.isAgg9
 z9 := Tryz.sizeOf9
 v9 := Tryz.zeroValue9 }
open Go.RowKit Go.Lib in
theorem Tryz.strings_HasSuffix (s p : ByteArray) (w : World) (hs : s.size ≤ 9223372036854775807) :
  Calls Tryz.prog 274 #[.string s, .string p] w fun e w' => e = .returned (.bool (Lib.hasSuffix s.data.toList p.data.toList)) ∧ w' = w := Any.strings_HasSuffix Tryz.lays100 s p w hs
def Tryz.lays101_ren : Go.Shelf.Ren := ⟨fun | 101 => 270 | 208 => 292 | 206 => 301 | n => n, fun | 9 => 9 | 4 => 4 | 3 => 3 | n => n, fun | n => n⟩
theorem Tryz.lays101 : Go.Proofs.Lays.n101 Tryz.prog Tryz.lays101_ren := {
 mixed := by kernel_rfl
 f101 := Tryz.func270.trans (congrArg some (by kernel_rfl))
 f206 := Tryz.func301.trans (congrArg some (by kernel_rfl))
 f208 := Tryz.func292.trans (congrArg some (by kernel_rfl))
 t3 := Tryz.underlying3
 a3 := Tryz.isAgg3
 z3 := Tryz.sizeOf3
 v3 := Tryz.zeroValue3
 t4 := Tryz.underlying4
 a4 := Tryz.isAgg4
 z4 := Tryz.sizeOf4
 v4 := Tryz.zeroValue4
 t9 := Tryz.underlying9
 a9 := Tryz.isAgg9
 z9 := Tryz.sizeOf9
 v9 := Tryz.zeroValue9 }
open Go.RowKit Go.Lib in
theorem Tryz.strings_TrimPrefix (s p : ByteArray) (w : World) :
  Calls Tryz.prog 270 #[.string s, .string p] w fun e w' => e = .returned (.string ⟨(Lib.trimPrefix s.data.toList p.data.toList).toArray⟩) ∧ w' = w := Any.strings_TrimPrefix Tryz.lays101 s p w
def Tryz.lays146_ren : Go.Shelf.Ren := ⟨fun | 146 => 290 | 221 => 300 | 268 => 306 | 138 => 307 | 143 => 299 | 195 => 310 | 197 => 311 | 218 => 312 | 219 => 296 | 260 => 313 | 217 => 302 | 225 => 303 | 224 => 304 | 267 => 305 | 266 => 308 | 314 => 309 | n => n, fun | 9 => 9 | 31 => 36 | 3 => 3 | 4 => 4 | 0 => 0 | 105 => 322 | 21 => 21 | 5 => 5 | 46 => 156 | 119 => 324 | 139 => 327 | 138 => 326 | 146 => 320 | 51 => 209 | n => n, fun | 1 => 0 | 3 => 1 | 4 => 2 | n => n⟩
theorem Tryz.lays146 : Go.Proofs.Lays.n146 Tryz.prog Tryz.lays146_ren := {
 mixed := by kernel_rfl
 f138 := Tryz.func307.trans (congrArg some (by kernel_rfl))
 f143 := Tryz.func299.trans (congrArg some (by kernel_rfl))
 f146 := Tryz.func290.trans (congrArg some (by kernel_rfl))
 f195 := Tryz.func310.trans (congrArg some (by kernel_rfl))
 f197 := Tryz.func311.trans (congrArg some (by kernel_rfl))
 f217 := Tryz.func302.trans (congrArg some (by kernel_rfl))
 f218 := Tryz.func312.trans (congrArg some (by kernel_rfl))
 f219 := Tryz.func296.trans (congrArg some (by kernel_rfl))
 f221 := Tryz.func300.trans (congrArg some (by kernel_rfl))
 f224 := Tryz.func304.trans (congrArg some (by kernel_rfl))
 f225 := Tryz.func303.trans (congrArg some (by kernel_rfl))
 f260 := Tryz.func313.trans (congrArg some (by kernel_rfl))
 f266 := Tryz.func308.trans (congrArg some (by kernel_rfl))
 f267 := Tryz.func305.trans (congrArg some (by kernel_rfl))
 f268 := Tryz.func306.trans (congrArg some (by kernel_rfl))
 f314 := Tryz.func309.trans (congrArg some (by kernel_rfl))
 t0 := Tryz.underlying0
 a0 := Tryz.isAgg0
 z0 := Tryz.sizeOf0
 v0 := Tryz.zeroValue0
 t3 := Tryz.underlying3
 a3 := Tryz.isAgg3
 z3 := Tryz.sizeOf3
 v3 := Tryz.zeroValue3
 t4 := Tryz.underlying4
 a4 := Tryz.isAgg4
 z4 := Tryz.sizeOf4
 v4 := Tryz.zeroValue4
 t5 := Tryz.underlying5
 a5 := Tryz.isAgg5
 z5 := Tryz.sizeOf5
 v5 := Tryz.zeroValue5
 t9 := Tryz.underlying9
 a9 := Tryz.isAgg9
 z9 := Tryz.sizeOf9
 v9 := Tryz.zeroValue9
 t21 := Tryz.underlying21
 a21 := Tryz.isAgg21
 z21 := Tryz.sizeOf21
 v21 := Tryz.zeroValue21
 t31 := Tryz.underlying36
 a31 := Tryz.isAgg36
 z31 := Tryz.sizeOf36
 v31 := Tryz.zeroValue36
 t46 := Tryz.underlying156
 a46 := Tryz.isAgg156
 z46 := Tryz.sizeOf156
 v46 := Tryz.zeroValue156
 t51 := Tryz.underlying209
 a51 := Tryz.isAgg209
 z51 := Tryz.sizeOf209
 v51 := Tryz.zeroValue209
 t105 := Tryz.underlying322
 a105 := Tryz.isAgg322
 z105 := Tryz.sizeOf322
 v105 := Tryz.zeroValue322
 t119 := Tryz.underlying324
 a119 := Tryz.isAgg324
 z119 := Tryz.sizeOf324
 t138 := Tryz.underlying326
 a138 := Tryz.isAgg326
 z138 := Tryz.sizeOf326
 v138 := Tryz.zeroValue326
 t139 := Tryz.underlying327
 a139 := Tryz.isAgg327
 z139 := Tryz.sizeOf327
 v139 := Tryz.zeroValue327
 t146 := Tryz.underlying320
 a146 := Tryz.isAgg320
 z146 := Tryz.sizeOf320
 v146 := Tryz.zeroValue320
 g1 := by kernel_rfl
 g3 := by kernel_rfl
 g4 := by kernel_rfl }
open Go.RowKit Go.Lib in
theorem Tryz.strings_Split (s sep : ByteArray) (m : Int) (w : World) (hs : s.size < 4294967281) (hm : w.cell? ⟨0, 0, none⟩ = some (.int .i64 m)) (h1 : 1 ≤ sep.size) :
  Calls Tryz.prog 290 #[.string s, .string sep] w fun e w' =>
   e = .returned (.slice (some ⟨w.heap.size, 0, none⟩) (Lib.countB s sep + 1) (Lib.countB s sep + 1)) ∧ w' = w.alloc (.cells ((Lib.splitB sep 0 (Lib.countB s sep) s).map Value.string).toArray 9) := Any.strings_Split Tryz.lays146 (by kernel_rfl) s sep m w hs hm h1
end Go.Proofs
