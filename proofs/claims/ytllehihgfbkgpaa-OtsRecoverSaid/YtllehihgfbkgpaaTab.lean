/-
  VALUE SEMANTICS: what the program's type table says, type by type. Printed by gentab.py.
  Conditions: none.
-/
import Derived.Test.YtllehihgfbkgpaaVs20
import Derived.Test.YtllehihgfbkgpaaRows
namespace Go.Proofs.Ytllehihgfbkgpaa
open Go.VS

@[simp] theorem usz0 : usz Try.prog 0 = some 1 := by kernel_rfl
@[simp] theorem ubytes0 : ubytes Try.prog 0 = some 0 := by kernel_rfl
@[simp] theorem uagg0 : uagg Try.prog 0 = some false := by kernel_rfl
@[simp] theorem uslice0 : uslice Try.prog 0 = none := by kernel_rfl
@[simp] theorem uarr0 : uarr Try.prog 0 = none := by kernel_rfl
@[simp] theorem uint0 : uint Try.prog 0 = none := by kernel_rfl
@[simp] theorem ustr0 : ustr Try.prog 0 = false := by kernel_rfl
@[simp] theorem uiface0 : uiface Try.prog 0 = some false := by kernel_rfl
@[simp] theorem usz1 : usz Try.prog 1 = some 1 := by kernel_rfl
@[simp] theorem ubytes1 : ubytes Try.prog 1 = some 8 := by kernel_rfl
@[simp] theorem uagg1 : uagg Try.prog 1 = some false := by kernel_rfl
@[simp] theorem uslice1 : uslice Try.prog 1 = none := by kernel_rfl
@[simp] theorem uarr1 : uarr Try.prog 1 = none := by kernel_rfl
@[simp] theorem uint1 : uint Try.prog 1 = none := by kernel_rfl
@[simp] theorem ustr1 : ustr Try.prog 1 = false := by kernel_rfl
@[simp] theorem uiface1 : uiface Try.prog 1 = some false := by kernel_rfl
@[simp] theorem uzero1 : uzero Try.prog 1 = some [.nilf] := by kernel_rfl
@[simp] theorem usz2 : usz Try.prog 2 = some 1 := by kernel_rfl
@[simp] theorem ubytes2 : ubytes Try.prog 2 = some 8 := by kernel_rfl
@[simp] theorem uagg2 : uagg Try.prog 2 = some false := by kernel_rfl
@[simp] theorem uslice2 : uslice Try.prog 2 = none := by kernel_rfl
@[simp] theorem uarr2 : uarr Try.prog 2 = none := by kernel_rfl
@[simp] theorem uint2 : uint Try.prog 2 = some .i64 := by kernel_rfl
@[simp] theorem ustr2 : ustr Try.prog 2 = false := by kernel_rfl
@[simp] theorem uiface2 : uiface Try.prog 2 = some false := by kernel_rfl
@[simp] theorem uzero2 : uzero Try.prog 2 = some [.int .i64 0] := by kernel_rfl
@[simp] theorem usz3 : usz Try.prog 3 = some 1 := by kernel_rfl
@[simp] theorem ubytes3 : ubytes Try.prog 3 = some 8 := by kernel_rfl
@[simp] theorem uagg3 : uagg Try.prog 3 = some false := by kernel_rfl
@[simp] theorem uslice3 : uslice Try.prog 3 = none := by kernel_rfl
@[simp] theorem uarr3 : uarr Try.prog 3 = none := by kernel_rfl
@[simp] theorem uint3 : uint Try.prog 3 = some .i64 := by kernel_rfl
@[simp] theorem ustr3 : ustr Try.prog 3 = false := by kernel_rfl
@[simp] theorem uiface3 : uiface Try.prog 3 = some false := by kernel_rfl
@[simp] theorem uzero3 : uzero Try.prog 3 = some [.int .i64 0] := by kernel_rfl
@[simp] theorem usz4 : usz Try.prog 4 = some 1 := by kernel_rfl
@[simp] theorem ubytes4 : ubytes Try.prog 4 = some 1 := by kernel_rfl
@[simp] theorem uagg4 : uagg Try.prog 4 = some false := by kernel_rfl
@[simp] theorem uslice4 : uslice Try.prog 4 = none := by kernel_rfl
@[simp] theorem uarr4 : uarr Try.prog 4 = none := by kernel_rfl
@[simp] theorem uint4 : uint Try.prog 4 = none := by kernel_rfl
@[simp] theorem ustr4 : ustr Try.prog 4 = false := by kernel_rfl
@[simp] theorem uiface4 : uiface Try.prog 4 = some false := by kernel_rfl
@[simp] theorem ubool4 : ubool Try.prog 4 = true := by kernel_rfl
@[simp] theorem uzero4 : uzero Try.prog 4 = some [.bool false] := by kernel_rfl
@[simp] theorem usz5 : usz Try.prog 5 = some 1 := by kernel_rfl
@[simp] theorem ubytes5 : ubytes Try.prog 5 = some 1 := by kernel_rfl
@[simp] theorem uagg5 : uagg Try.prog 5 = some false := by kernel_rfl
@[simp] theorem uslice5 : uslice Try.prog 5 = none := by kernel_rfl
@[simp] theorem uarr5 : uarr Try.prog 5 = none := by kernel_rfl
@[simp] theorem uint5 : uint Try.prog 5 = some .u8 := by kernel_rfl
@[simp] theorem ustr5 : ustr Try.prog 5 = false := by kernel_rfl
@[simp] theorem uiface5 : uiface Try.prog 5 = some false := by kernel_rfl
@[simp] theorem uzero5 : uzero Try.prog 5 = some [.int .u8 0] := by kernel_rfl
@[simp] theorem usz6 : usz Try.prog 6 = some 1 := by kernel_rfl
@[simp] theorem ubytes6 : ubytes Try.prog 6 = some 1 := by kernel_rfl
@[simp] theorem uagg6 : uagg Try.prog 6 = some false := by kernel_rfl
@[simp] theorem uslice6 : uslice Try.prog 6 = none := by kernel_rfl
@[simp] theorem uarr6 : uarr Try.prog 6 = none := by kernel_rfl
@[simp] theorem uint6 : uint Try.prog 6 = some .u8 := by kernel_rfl
@[simp] theorem ustr6 : ustr Try.prog 6 = false := by kernel_rfl
@[simp] theorem uiface6 : uiface Try.prog 6 = some false := by kernel_rfl
@[simp] theorem uzero6 : uzero Try.prog 6 = some [.int .u8 0] := by kernel_rfl
@[simp] theorem usz7 : usz Try.prog 7 = some 4 := by kernel_rfl
@[simp] theorem ubytes7 : ubytes Try.prog 7 = some 24 := by kernel_rfl
@[simp] theorem uagg7 : uagg Try.prog 7 = some true := by kernel_rfl
@[simp] theorem uslice7 : uslice Try.prog 7 = none := by kernel_rfl
@[simp] theorem uarr7 : uarr Try.prog 7 = none := by kernel_rfl
@[simp] theorem uint7 : uint Try.prog 7 = none := by kernel_rfl
@[simp] theorem ustr7 : ustr Try.prog 7 = false := by kernel_rfl
@[simp] theorem uiface7 : uiface Try.prog 7 = some false := by kernel_rfl
@[simp] theorem ufield7_0 : ufield Try.prog 7 0 = some (2, 0) := by kernel_rfl
@[simp] theorem uplace7_0 : uplace Try.prog 7 0 = some (0, 1) := by kernel_rfl
@[simp] theorem ufield7_1 : ufield Try.prog 7 1 = some (3, 1) := by kernel_rfl
@[simp] theorem uplace7_1 : uplace Try.prog 7 1 = some (1, 1) := by kernel_rfl
@[simp] theorem ufield7_2 : ufield Try.prog 7 2 = some (4, 2) := by kernel_rfl
@[simp] theorem uplace7_2 : uplace Try.prog 7 2 = some (2, 1) := by kernel_rfl
@[simp] theorem ufield7_3 : ufield Try.prog 7 3 = some (6, 3) := by kernel_rfl
@[simp] theorem uplace7_3 : uplace Try.prog 7 3 = some (3, 1) := by kernel_rfl
@[simp] theorem uplaces7 : (uplaces Try.prog 7).isSome = true := by kernel_rfl
@[simp] theorem uzero7 : uzero Try.prog 7 = some [.int .i64 0, .int .i64 0, .bool false, .int .u8 0] := by kernel_rfl
@[simp] theorem usz8 : usz Try.prog 8 = some 4 := by kernel_rfl
@[simp] theorem ubytes8 : ubytes Try.prog 8 = some 24 := by kernel_rfl
@[simp] theorem uagg8 : uagg Try.prog 8 = some true := by kernel_rfl
@[simp] theorem uslice8 : uslice Try.prog 8 = none := by kernel_rfl
@[simp] theorem uarr8 : uarr Try.prog 8 = none := by kernel_rfl
@[simp] theorem uint8 : uint Try.prog 8 = none := by kernel_rfl
@[simp] theorem ustr8 : ustr Try.prog 8 = false := by kernel_rfl
@[simp] theorem uiface8 : uiface Try.prog 8 = some false := by kernel_rfl
@[simp] theorem ufield8_0 : ufield Try.prog 8 0 = some (2, 0) := by kernel_rfl
@[simp] theorem uplace8_0 : uplace Try.prog 8 0 = some (0, 1) := by kernel_rfl
@[simp] theorem ufield8_1 : ufield Try.prog 8 1 = some (3, 1) := by kernel_rfl
@[simp] theorem uplace8_1 : uplace Try.prog 8 1 = some (1, 1) := by kernel_rfl
@[simp] theorem ufield8_2 : ufield Try.prog 8 2 = some (4, 2) := by kernel_rfl
@[simp] theorem uplace8_2 : uplace Try.prog 8 2 = some (2, 1) := by kernel_rfl
@[simp] theorem ufield8_3 : ufield Try.prog 8 3 = some (6, 3) := by kernel_rfl
@[simp] theorem uplace8_3 : uplace Try.prog 8 3 = some (3, 1) := by kernel_rfl
@[simp] theorem uplaces8 : (uplaces Try.prog 8).isSome = true := by kernel_rfl
@[simp] theorem uzero8 : uzero Try.prog 8 = some [.int .i64 0, .int .i64 0, .bool false, .int .u8 0] := by kernel_rfl
@[simp] theorem usz9 : usz Try.prog 9 = some 1 := by kernel_rfl
@[simp] theorem ubytes9 : ubytes Try.prog 9 = some 16 := by kernel_rfl
@[simp] theorem uagg9 : uagg Try.prog 9 = some false := by kernel_rfl
@[simp] theorem uslice9 : uslice Try.prog 9 = none := by kernel_rfl
@[simp] theorem uarr9 : uarr Try.prog 9 = none := by kernel_rfl
@[simp] theorem uint9 : uint Try.prog 9 = none := by kernel_rfl
@[simp] theorem ustr9 : ustr Try.prog 9 = true := by kernel_rfl
@[simp] theorem uiface9 : uiface Try.prog 9 = some false := by kernel_rfl
@[simp] theorem uzero9 : uzero Try.prog 9 = some [.str []] := by kernel_rfl
@[simp] theorem usz10 : usz Try.prog 10 = some 1 := by kernel_rfl
@[simp] theorem ubytes10 : ubytes Try.prog 10 = some 16 := by kernel_rfl
@[simp] theorem uagg10 : uagg Try.prog 10 = some false := by kernel_rfl
@[simp] theorem uslice10 : uslice Try.prog 10 = none := by kernel_rfl
@[simp] theorem uarr10 : uarr Try.prog 10 = none := by kernel_rfl
@[simp] theorem uint10 : uint Try.prog 10 = none := by kernel_rfl
@[simp] theorem ustr10 : ustr Try.prog 10 = true := by kernel_rfl
@[simp] theorem uiface10 : uiface Try.prog 10 = some false := by kernel_rfl
@[simp] theorem uzero10 : uzero Try.prog 10 = some [.str []] := by kernel_rfl
@[simp] theorem usz11 : usz Try.prog 11 = some 1 := by kernel_rfl
@[simp] theorem ubytes11 : ubytes Try.prog 11 = some 16 := by kernel_rfl
@[simp] theorem uagg11 : uagg Try.prog 11 = some false := by kernel_rfl
@[simp] theorem uslice11 : uslice Try.prog 11 = none := by kernel_rfl
@[simp] theorem uarr11 : uarr Try.prog 11 = none := by kernel_rfl
@[simp] theorem uint11 : uint Try.prog 11 = none := by kernel_rfl
@[simp] theorem ustr11 : ustr Try.prog 11 = true := by kernel_rfl
@[simp] theorem uiface11 : uiface Try.prog 11 = some false := by kernel_rfl
@[simp] theorem uzero11 : uzero Try.prog 11 = some [.str []] := by kernel_rfl
@[simp] theorem usz12 : usz Try.prog 12 = some 1 := by kernel_rfl
@[simp] theorem ubytes12 : ubytes Try.prog 12 = some 8 := by kernel_rfl
@[simp] theorem uagg12 : uagg Try.prog 12 = some false := by kernel_rfl
@[simp] theorem uslice12 : uslice Try.prog 12 = none := by kernel_rfl
@[simp] theorem uarr12 : uarr Try.prog 12 = none := by kernel_rfl
@[simp] theorem uint12 : uint Try.prog 12 = some .u64 := by kernel_rfl
@[simp] theorem ustr12 : ustr Try.prog 12 = false := by kernel_rfl
@[simp] theorem uiface12 : uiface Try.prog 12 = some false := by kernel_rfl
@[simp] theorem uzero12 : uzero Try.prog 12 = some [.int .u64 0] := by kernel_rfl
@[simp] theorem usz13 : usz Try.prog 13 = some 2 := by kernel_rfl
@[simp] theorem ubytes13 : ubytes Try.prog 13 = some 24 := by kernel_rfl
@[simp] theorem uagg13 : uagg Try.prog 13 = some true := by kernel_rfl
@[simp] theorem uslice13 : uslice Try.prog 13 = none := by kernel_rfl
@[simp] theorem uarr13 : uarr Try.prog 13 = none := by kernel_rfl
@[simp] theorem uint13 : uint Try.prog 13 = none := by kernel_rfl
@[simp] theorem ustr13 : ustr Try.prog 13 = false := by kernel_rfl
@[simp] theorem uiface13 : uiface Try.prog 13 = some false := by kernel_rfl
@[simp] theorem ufield13_0 : ufield Try.prog 13 0 = some (9, 0) := by kernel_rfl
@[simp] theorem uplace13_0 : uplace Try.prog 13 0 = some (0, 1) := by kernel_rfl
@[simp] theorem ufield13_1 : ufield Try.prog 13 1 = some (12, 1) := by kernel_rfl
@[simp] theorem uplace13_1 : uplace Try.prog 13 1 = some (1, 1) := by kernel_rfl
@[simp] theorem uplaces13 : (uplaces Try.prog 13).isSome = true := by kernel_rfl
@[simp] theorem uzero13 : uzero Try.prog 13 = some [.str [], .int .u64 0] := by kernel_rfl
@[simp] theorem usz14 : usz Try.prog 14 = some 2 := by kernel_rfl
@[simp] theorem ubytes14 : ubytes Try.prog 14 = some 24 := by kernel_rfl
@[simp] theorem uagg14 : uagg Try.prog 14 = some true := by kernel_rfl
@[simp] theorem uslice14 : uslice Try.prog 14 = none := by kernel_rfl
@[simp] theorem uarr14 : uarr Try.prog 14 = none := by kernel_rfl
@[simp] theorem uint14 : uint Try.prog 14 = none := by kernel_rfl
@[simp] theorem ustr14 : ustr Try.prog 14 = false := by kernel_rfl
@[simp] theorem uiface14 : uiface Try.prog 14 = some false := by kernel_rfl
@[simp] theorem ufield14_0 : ufield Try.prog 14 0 = some (9, 0) := by kernel_rfl
@[simp] theorem uplace14_0 : uplace Try.prog 14 0 = some (0, 1) := by kernel_rfl
@[simp] theorem ufield14_1 : ufield Try.prog 14 1 = some (12, 1) := by kernel_rfl
@[simp] theorem uplace14_1 : uplace Try.prog 14 1 = some (1, 1) := by kernel_rfl
@[simp] theorem uplaces14 : (uplaces Try.prog 14).isSome = true := by kernel_rfl
@[simp] theorem uzero14 : uzero Try.prog 14 = some [.str [], .int .u64 0] := by kernel_rfl
@[simp] theorem usz15 : usz Try.prog 15 = some 1 := by kernel_rfl
@[simp] theorem ubytes15 : ubytes Try.prog 15 = some 8 := by kernel_rfl
@[simp] theorem uagg15 : uagg Try.prog 15 = some false := by kernel_rfl
@[simp] theorem uslice15 : uslice Try.prog 15 = none := by kernel_rfl
@[simp] theorem uarr15 : uarr Try.prog 15 = none := by kernel_rfl
@[simp] theorem uint15 : uint Try.prog 15 = none := by kernel_rfl
@[simp] theorem ustr15 : ustr Try.prog 15 = false := by kernel_rfl
@[simp] theorem uiface15 : uiface Try.prog 15 = some false := by kernel_rfl
@[simp] theorem uptr15 : uptr Try.prog 15 = true := by kernel_rfl
@[simp] theorem uzero15 : uzero Try.prog 15 = some [.nilp] := by kernel_rfl
@[simp] theorem usz16 : usz Try.prog 16 = some 1 := by kernel_rfl
@[simp] theorem ubytes16 : ubytes Try.prog 16 = some 8 := by kernel_rfl
@[simp] theorem uagg16 : uagg Try.prog 16 = some false := by kernel_rfl
@[simp] theorem uslice16 : uslice Try.prog 16 = none := by kernel_rfl
@[simp] theorem uarr16 : uarr Try.prog 16 = none := by kernel_rfl
@[simp] theorem uint16 : uint Try.prog 16 = none := by kernel_rfl
@[simp] theorem ustr16 : ustr Try.prog 16 = false := by kernel_rfl
@[simp] theorem uiface16 : uiface Try.prog 16 = some false := by kernel_rfl
@[simp] theorem uptr16 : uptr Try.prog 16 = true := by kernel_rfl
@[simp] theorem uzero16 : uzero Try.prog 16 = some [.nilp] := by kernel_rfl
@[simp] theorem usz17 : usz Try.prog 17 = some 1 := by kernel_rfl
@[simp] theorem ubytes17 : ubytes Try.prog 17 = some 8 := by kernel_rfl
@[simp] theorem uagg17 : uagg Try.prog 17 = some false := by kernel_rfl
@[simp] theorem uslice17 : uslice Try.prog 17 = none := by kernel_rfl
@[simp] theorem uarr17 : uarr Try.prog 17 = none := by kernel_rfl
@[simp] theorem uint17 : uint Try.prog 17 = none := by kernel_rfl
@[simp] theorem ustr17 : ustr Try.prog 17 = false := by kernel_rfl
@[simp] theorem uiface17 : uiface Try.prog 17 = some false := by kernel_rfl
@[simp] theorem uptr17 : uptr Try.prog 17 = true := by kernel_rfl
@[simp] theorem uzero17 : uzero Try.prog 17 = some [.nilp] := by kernel_rfl
@[simp] theorem usz18 : usz Try.prog 18 = some 1 := by kernel_rfl
@[simp] theorem ubytes18 : ubytes Try.prog 18 = some 8 := by kernel_rfl
@[simp] theorem uagg18 : uagg Try.prog 18 = some true := by kernel_rfl
@[simp] theorem uslice18 : uslice Try.prog 18 = none := by kernel_rfl
@[simp] theorem uarr18 : uarr Try.prog 18 = none := by kernel_rfl
@[simp] theorem uint18 : uint Try.prog 18 = none := by kernel_rfl
@[simp] theorem ustr18 : ustr Try.prog 18 = false := by kernel_rfl
@[simp] theorem uiface18 : uiface Try.prog 18 = some false := by kernel_rfl
@[simp] theorem ufield18_0 : ufield Try.prog 18 0 = some (17, 0) := by kernel_rfl
@[simp] theorem uplace18_0 : uplace Try.prog 18 0 = some (0, 1) := by kernel_rfl
@[simp] theorem uplaces18 : (uplaces Try.prog 18).isSome = true := by kernel_rfl
@[simp] theorem uzero18 : uzero Try.prog 18 = some [.nilp] := by kernel_rfl
@[simp] theorem usz19 : usz Try.prog 19 = some 1 := by kernel_rfl
@[simp] theorem ubytes19 : ubytes Try.prog 19 = some 8 := by kernel_rfl
@[simp] theorem uagg19 : uagg Try.prog 19 = some true := by kernel_rfl
@[simp] theorem uslice19 : uslice Try.prog 19 = none := by kernel_rfl
@[simp] theorem uarr19 : uarr Try.prog 19 = none := by kernel_rfl
@[simp] theorem uint19 : uint Try.prog 19 = none := by kernel_rfl
@[simp] theorem ustr19 : ustr Try.prog 19 = false := by kernel_rfl
@[simp] theorem uiface19 : uiface Try.prog 19 = some false := by kernel_rfl
@[simp] theorem ufield19_0 : ufield Try.prog 19 0 = some (17, 0) := by kernel_rfl
@[simp] theorem uplace19_0 : uplace Try.prog 19 0 = some (0, 1) := by kernel_rfl
@[simp] theorem uplaces19 : (uplaces Try.prog 19).isSome = true := by kernel_rfl
@[simp] theorem uzero19 : uzero Try.prog 19 = some [.nilp] := by kernel_rfl
@[simp] theorem usz20 : usz Try.prog 20 = some 1 := by kernel_rfl
@[simp] theorem ubytes20 : ubytes Try.prog 20 = some 16 := by kernel_rfl
@[simp] theorem uagg20 : uagg Try.prog 20 = some false := by kernel_rfl
@[simp] theorem uslice20 : uslice Try.prog 20 = none := by kernel_rfl
@[simp] theorem uarr20 : uarr Try.prog 20 = none := by kernel_rfl
@[simp] theorem uint20 : uint Try.prog 20 = none := by kernel_rfl
@[simp] theorem ustr20 : ustr Try.prog 20 = false := by kernel_rfl
@[simp] theorem uiface20 : uiface Try.prog 20 = some true := by kernel_rfl
@[simp] theorem uzero20 : uzero Try.prog 20 = some [.niface] := by kernel_rfl
@[simp] theorem usz21 : usz Try.prog 21 = some 1 := by kernel_rfl
@[simp] theorem ubytes21 : ubytes Try.prog 21 = some 4 := by kernel_rfl
@[simp] theorem uagg21 : uagg Try.prog 21 = some false := by kernel_rfl
@[simp] theorem uslice21 : uslice Try.prog 21 = none := by kernel_rfl
@[simp] theorem uarr21 : uarr Try.prog 21 = none := by kernel_rfl
@[simp] theorem uint21 : uint Try.prog 21 = some .i32 := by kernel_rfl
@[simp] theorem ustr21 : ustr Try.prog 21 = false := by kernel_rfl
@[simp] theorem uiface21 : uiface Try.prog 21 = some false := by kernel_rfl
@[simp] theorem uzero21 : uzero Try.prog 21 = some [.int .i32 0] := by kernel_rfl
@[simp] theorem usz22 : usz Try.prog 22 = some 16 := by kernel_rfl
@[simp] theorem ubytes22 : ubytes Try.prog 22 = some 16 := by kernel_rfl
@[simp] theorem uagg22 : uagg Try.prog 22 = some true := by kernel_rfl
@[simp] theorem uslice22 : uslice Try.prog 22 = none := by kernel_rfl
@[simp] theorem uarr22 : uarr Try.prog 22 = some (16, 5) := by kernel_rfl
@[simp] theorem uint22 : uint Try.prog 22 = none := by kernel_rfl
@[simp] theorem ustr22 : ustr Try.prog 22 = false := by kernel_rfl
@[simp] theorem uiface22 : uiface Try.prog 22 = some false := by kernel_rfl
@[simp] theorem uplace22 (i : Nat) : uplace Try.prog 22 i = some (i * 1, 1) := by kernel_rfl
@[simp] theorem uplaces22 : (uplaces Try.prog 22).isSome = true := by kernel_rfl
@[simp] theorem uzero22 : uzero Try.prog 22 = some [.int .u8 0, .int .u8 0, .int .u8 0, .int .u8 0, .int .u8 0, .int .u8 0, .int .u8 0, .int .u8 0, .int .u8 0, .int .u8 0, .int .u8 0, .int .u8 0, .int .u8 0, .int .u8 0, .int .u8 0, .int .u8 0] := by kernel_rfl
@[simp] theorem usz23 : usz Try.prog 23 = some 1 := by kernel_rfl
@[simp] theorem ubytes23 : ubytes Try.prog 23 = some 8 := by kernel_rfl
@[simp] theorem uagg23 : uagg Try.prog 23 = some false := by kernel_rfl
@[simp] theorem uslice23 : uslice Try.prog 23 = none := by kernel_rfl
@[simp] theorem uarr23 : uarr Try.prog 23 = none := by kernel_rfl
@[simp] theorem uint23 : uint Try.prog 23 = none := by kernel_rfl
@[simp] theorem ustr23 : ustr Try.prog 23 = false := by kernel_rfl
@[simp] theorem uiface23 : uiface Try.prog 23 = some false := by kernel_rfl
@[simp] theorem uzero23 : uzero Try.prog 23 = some [.nilf] := by kernel_rfl
@[simp] theorem usz24 : usz Try.prog 24 = some 1 := by kernel_rfl
@[simp] theorem ubytes24 : ubytes Try.prog 24 = some 24 := by kernel_rfl
@[simp] theorem uagg24 : uagg Try.prog 24 = some false := by kernel_rfl
@[simp] theorem uslice24 : uslice Try.prog 24 = some 5 := by kernel_rfl
@[simp] theorem uarr24 : uarr Try.prog 24 = none := by kernel_rfl
@[simp] theorem uint24 : uint Try.prog 24 = none := by kernel_rfl
@[simp] theorem ustr24 : ustr Try.prog 24 = false := by kernel_rfl
@[simp] theorem uiface24 : uiface Try.prog 24 = some false := by kernel_rfl
@[simp] theorem uzero24 : uzero Try.prog 24 = some [.nils] := by kernel_rfl
@[simp] theorem usz25 : usz Try.prog 25 = some 1 := by kernel_rfl
@[simp] theorem ubytes25 : ubytes Try.prog 25 = some 8 := by kernel_rfl
@[simp] theorem uagg25 : uagg Try.prog 25 = some false := by kernel_rfl
@[simp] theorem uslice25 : uslice Try.prog 25 = none := by kernel_rfl
@[simp] theorem uarr25 : uarr Try.prog 25 = none := by kernel_rfl
@[simp] theorem uint25 : uint Try.prog 25 = none := by kernel_rfl
@[simp] theorem ustr25 : ustr Try.prog 25 = false := by kernel_rfl
@[simp] theorem uiface25 : uiface Try.prog 25 = some false := by kernel_rfl
@[simp] theorem uzero25 : uzero Try.prog 25 = some [.nilf] := by kernel_rfl
@[simp] theorem usz26 : usz Try.prog 26 = some 1 := by kernel_rfl
@[simp] theorem ubytes26 : ubytes Try.prog 26 = some 24 := by kernel_rfl
@[simp] theorem uagg26 : uagg Try.prog 26 = some false := by kernel_rfl
@[simp] theorem uslice26 : uslice Try.prog 26 = some 9 := by kernel_rfl
@[simp] theorem uarr26 : uarr Try.prog 26 = none := by kernel_rfl
@[simp] theorem uint26 : uint Try.prog 26 = none := by kernel_rfl
@[simp] theorem ustr26 : ustr Try.prog 26 = false := by kernel_rfl
@[simp] theorem uiface26 : uiface Try.prog 26 = some false := by kernel_rfl
@[simp] theorem uzero26 : uzero Try.prog 26 = some [.nils] := by kernel_rfl
@[simp] theorem usz27 : usz Try.prog 27 = some 1 := by kernel_rfl
@[simp] theorem ubytes27 : ubytes Try.prog 27 = some 24 := by kernel_rfl
@[simp] theorem uagg27 : uagg Try.prog 27 = some false := by kernel_rfl
@[simp] theorem uslice27 : uslice Try.prog 27 = some 3 := by kernel_rfl
@[simp] theorem uarr27 : uarr Try.prog 27 = none := by kernel_rfl
@[simp] theorem uint27 : uint Try.prog 27 = none := by kernel_rfl
@[simp] theorem ustr27 : ustr Try.prog 27 = false := by kernel_rfl
@[simp] theorem uiface27 : uiface Try.prog 27 = some false := by kernel_rfl
@[simp] theorem uzero27 : uzero Try.prog 27 = some [.nils] := by kernel_rfl
@[simp] theorem usz28 : usz Try.prog 28 = some 1 := by kernel_rfl
@[simp] theorem ubytes28 : ubytes Try.prog 28 = some 8 := by kernel_rfl
@[simp] theorem uagg28 : uagg Try.prog 28 = some false := by kernel_rfl
@[simp] theorem uslice28 : uslice Try.prog 28 = none := by kernel_rfl
@[simp] theorem uarr28 : uarr Try.prog 28 = none := by kernel_rfl
@[simp] theorem uint28 : uint Try.prog 28 = some .i64 := by kernel_rfl
@[simp] theorem ustr28 : ustr Try.prog 28 = false := by kernel_rfl
@[simp] theorem uiface28 : uiface Try.prog 28 = some false := by kernel_rfl
@[simp] theorem uzero28 : uzero Try.prog 28 = some [.int .i64 0] := by kernel_rfl
@[simp] theorem usz29 : usz Try.prog 29 = some 1 := by kernel_rfl
@[simp] theorem ubytes29 : ubytes Try.prog 29 = some 0 := by kernel_rfl
@[simp] theorem uagg29 : uagg Try.prog 29 = some false := by kernel_rfl
@[simp] theorem uslice29 : uslice Try.prog 29 = none := by kernel_rfl
@[simp] theorem uarr29 : uarr Try.prog 29 = none := by kernel_rfl
@[simp] theorem uint29 : uint Try.prog 29 = none := by kernel_rfl
@[simp] theorem ustr29 : ustr Try.prog 29 = false := by kernel_rfl
@[simp] theorem uiface29 : uiface Try.prog 29 = some false := by kernel_rfl
@[simp] theorem usz30 : usz Try.prog 30 = some 1 := by kernel_rfl
@[simp] theorem ubytes30 : ubytes Try.prog 30 = some 8 := by kernel_rfl
@[simp] theorem uagg30 : uagg Try.prog 30 = some false := by kernel_rfl
@[simp] theorem uslice30 : uslice Try.prog 30 = none := by kernel_rfl
@[simp] theorem uarr30 : uarr Try.prog 30 = none := by kernel_rfl
@[simp] theorem uint30 : uint Try.prog 30 = none := by kernel_rfl
@[simp] theorem ustr30 : ustr Try.prog 30 = false := by kernel_rfl
@[simp] theorem uiface30 : uiface Try.prog 30 = some false := by kernel_rfl
@[simp] theorem uzero30 : uzero Try.prog 30 = some [.nilf] := by kernel_rfl
@[simp] theorem usz31 : usz Try.prog 31 = some 1 := by kernel_rfl
@[simp] theorem ubytes31 : ubytes Try.prog 31 = some 8 := by kernel_rfl
@[simp] theorem uagg31 : uagg Try.prog 31 = some false := by kernel_rfl
@[simp] theorem uslice31 : uslice Try.prog 31 = none := by kernel_rfl
@[simp] theorem uarr31 : uarr Try.prog 31 = none := by kernel_rfl
@[simp] theorem uint31 : uint Try.prog 31 = none := by kernel_rfl
@[simp] theorem ustr31 : ustr Try.prog 31 = false := by kernel_rfl
@[simp] theorem uiface31 : uiface Try.prog 31 = some false := by kernel_rfl
@[simp] theorem uzero31 : uzero Try.prog 31 = some [.nilf] := by kernel_rfl
@[simp] theorem usz32 : usz Try.prog 32 = some 1 := by kernel_rfl
@[simp] theorem ubytes32 : ubytes Try.prog 32 = some 8 := by kernel_rfl
@[simp] theorem uagg32 : uagg Try.prog 32 = some false := by kernel_rfl
@[simp] theorem uslice32 : uslice Try.prog 32 = none := by kernel_rfl
@[simp] theorem uarr32 : uarr Try.prog 32 = none := by kernel_rfl
@[simp] theorem uint32 : uint Try.prog 32 = none := by kernel_rfl
@[simp] theorem ustr32 : ustr Try.prog 32 = false := by kernel_rfl
@[simp] theorem uiface32 : uiface Try.prog 32 = some false := by kernel_rfl
@[simp] theorem uzero32 : uzero Try.prog 32 = some [.nilf] := by kernel_rfl
@[simp] theorem usz33 : usz Try.prog 33 = some 1 := by kernel_rfl
@[simp] theorem ubytes33 : ubytes Try.prog 33 = some 8 := by kernel_rfl
@[simp] theorem uagg33 : uagg Try.prog 33 = some false := by kernel_rfl
@[simp] theorem uslice33 : uslice Try.prog 33 = none := by kernel_rfl
@[simp] theorem uarr33 : uarr Try.prog 33 = none := by kernel_rfl
@[simp] theorem uint33 : uint Try.prog 33 = none := by kernel_rfl
@[simp] theorem ustr33 : ustr Try.prog 33 = false := by kernel_rfl
@[simp] theorem uiface33 : uiface Try.prog 33 = some false := by kernel_rfl
@[simp] theorem uzero33 : uzero Try.prog 33 = some [.nilf] := by kernel_rfl
@[simp] theorem usz34 : usz Try.prog 34 = some 1 := by kernel_rfl
@[simp] theorem ubytes34 : ubytes Try.prog 34 = some 8 := by kernel_rfl
@[simp] theorem uagg34 : uagg Try.prog 34 = some false := by kernel_rfl
@[simp] theorem uslice34 : uslice Try.prog 34 = none := by kernel_rfl
@[simp] theorem uarr34 : uarr Try.prog 34 = none := by kernel_rfl
@[simp] theorem uint34 : uint Try.prog 34 = none := by kernel_rfl
@[simp] theorem ustr34 : ustr Try.prog 34 = false := by kernel_rfl
@[simp] theorem uiface34 : uiface Try.prog 34 = some false := by kernel_rfl
@[simp] theorem uzero34 : uzero Try.prog 34 = some [.nilf] := by kernel_rfl
@[simp] theorem usz35 : usz Try.prog 35 = some 1 := by kernel_rfl
@[simp] theorem ubytes35 : ubytes Try.prog 35 = some 8 := by kernel_rfl
@[simp] theorem uagg35 : uagg Try.prog 35 = some false := by kernel_rfl
@[simp] theorem uslice35 : uslice Try.prog 35 = none := by kernel_rfl
@[simp] theorem uarr35 : uarr Try.prog 35 = none := by kernel_rfl
@[simp] theorem uint35 : uint Try.prog 35 = none := by kernel_rfl
@[simp] theorem ustr35 : ustr Try.prog 35 = false := by kernel_rfl
@[simp] theorem uiface35 : uiface Try.prog 35 = some false := by kernel_rfl
@[simp] theorem uzero35 : uzero Try.prog 35 = some [.nilf] := by kernel_rfl
@[simp] theorem usz36 : usz Try.prog 36 = some 1 := by kernel_rfl
@[simp] theorem ubytes36 : ubytes Try.prog 36 = some 2 := by kernel_rfl
@[simp] theorem uagg36 : uagg Try.prog 36 = some false := by kernel_rfl
@[simp] theorem uslice36 : uslice Try.prog 36 = none := by kernel_rfl
@[simp] theorem uarr36 : uarr Try.prog 36 = none := by kernel_rfl
@[simp] theorem uint36 : uint Try.prog 36 = some .u16 := by kernel_rfl
@[simp] theorem ustr36 : ustr Try.prog 36 = false := by kernel_rfl
@[simp] theorem uiface36 : uiface Try.prog 36 = some false := by kernel_rfl
@[simp] theorem uzero36 : uzero Try.prog 36 = some [.int .u16 0] := by kernel_rfl
@[simp] theorem usz37 : usz Try.prog 37 = some 1 := by kernel_rfl
@[simp] theorem ubytes37 : ubytes Try.prog 37 = some 8 := by kernel_rfl
@[simp] theorem uagg37 : uagg Try.prog 37 = some false := by kernel_rfl
@[simp] theorem uslice37 : uslice Try.prog 37 = none := by kernel_rfl
@[simp] theorem uarr37 : uarr Try.prog 37 = none := by kernel_rfl
@[simp] theorem uint37 : uint Try.prog 37 = none := by kernel_rfl
@[simp] theorem ustr37 : ustr Try.prog 37 = false := by kernel_rfl
@[simp] theorem uiface37 : uiface Try.prog 37 = some false := by kernel_rfl
@[simp] theorem uzero37 : uzero Try.prog 37 = some [.nilf] := by kernel_rfl
@[simp] theorem usz38 : usz Try.prog 38 = some 1 := by kernel_rfl
@[simp] theorem ubytes38 : ubytes Try.prog 38 = some 8 := by kernel_rfl
@[simp] theorem uagg38 : uagg Try.prog 38 = some false := by kernel_rfl
@[simp] theorem uslice38 : uslice Try.prog 38 = none := by kernel_rfl
@[simp] theorem uarr38 : uarr Try.prog 38 = none := by kernel_rfl
@[simp] theorem uint38 : uint Try.prog 38 = none := by kernel_rfl
@[simp] theorem ustr38 : ustr Try.prog 38 = false := by kernel_rfl
@[simp] theorem uiface38 : uiface Try.prog 38 = some false := by kernel_rfl
@[simp] theorem uptr38 : uptr Try.prog 38 = true := by kernel_rfl
@[simp] theorem uzero38 : uzero Try.prog 38 = some [.nilp] := by kernel_rfl
@[simp] theorem usz39 : usz Try.prog 39 = some 1 := by kernel_rfl
@[simp] theorem ubytes39 : ubytes Try.prog 39 = some 8 := by kernel_rfl
@[simp] theorem uagg39 : uagg Try.prog 39 = some false := by kernel_rfl
@[simp] theorem uslice39 : uslice Try.prog 39 = none := by kernel_rfl
@[simp] theorem uarr39 : uarr Try.prog 39 = none := by kernel_rfl
@[simp] theorem uint39 : uint Try.prog 39 = none := by kernel_rfl
@[simp] theorem ustr39 : ustr Try.prog 39 = false := by kernel_rfl
@[simp] theorem uiface39 : uiface Try.prog 39 = some false := by kernel_rfl
@[simp] theorem uzero39 : uzero Try.prog 39 = some [.nilf] := by kernel_rfl
@[simp] theorem usz40 : usz Try.prog 40 = some 1 := by kernel_rfl
@[simp] theorem ubytes40 : ubytes Try.prog 40 = some 8 := by kernel_rfl
@[simp] theorem uagg40 : uagg Try.prog 40 = some false := by kernel_rfl
@[simp] theorem uslice40 : uslice Try.prog 40 = none := by kernel_rfl
@[simp] theorem uarr40 : uarr Try.prog 40 = none := by kernel_rfl
@[simp] theorem uint40 : uint Try.prog 40 = none := by kernel_rfl
@[simp] theorem ustr40 : ustr Try.prog 40 = false := by kernel_rfl
@[simp] theorem uiface40 : uiface Try.prog 40 = some false := by kernel_rfl
@[simp] theorem uzero40 : uzero Try.prog 40 = some [.nilf] := by kernel_rfl
@[simp] theorem usz41 : usz Try.prog 41 = some 1 := by kernel_rfl
@[simp] theorem ubytes41 : ubytes Try.prog 41 = some 8 := by kernel_rfl
@[simp] theorem uagg41 : uagg Try.prog 41 = some false := by kernel_rfl
@[simp] theorem uslice41 : uslice Try.prog 41 = none := by kernel_rfl
@[simp] theorem uarr41 : uarr Try.prog 41 = none := by kernel_rfl
@[simp] theorem uint41 : uint Try.prog 41 = none := by kernel_rfl
@[simp] theorem ustr41 : ustr Try.prog 41 = false := by kernel_rfl
@[simp] theorem uiface41 : uiface Try.prog 41 = some false := by kernel_rfl
@[simp] theorem uzero41 : uzero Try.prog 41 = some [.nilf] := by kernel_rfl
@[simp] theorem usz42 : usz Try.prog 42 = some 1 := by kernel_rfl
@[simp] theorem ubytes42 : ubytes Try.prog 42 = some 8 := by kernel_rfl
@[simp] theorem uagg42 : uagg Try.prog 42 = some false := by kernel_rfl
@[simp] theorem uslice42 : uslice Try.prog 42 = none := by kernel_rfl
@[simp] theorem uarr42 : uarr Try.prog 42 = none := by kernel_rfl
@[simp] theorem uint42 : uint Try.prog 42 = none := by kernel_rfl
@[simp] theorem ustr42 : ustr Try.prog 42 = false := by kernel_rfl
@[simp] theorem uiface42 : uiface Try.prog 42 = some false := by kernel_rfl
@[simp] theorem uzero42 : uzero Try.prog 42 = some [.nilf] := by kernel_rfl
@[simp] theorem usz43 : usz Try.prog 43 = some 1 := by kernel_rfl
@[simp] theorem ubytes43 : ubytes Try.prog 43 = some 4 := by kernel_rfl
@[simp] theorem uagg43 : uagg Try.prog 43 = some false := by kernel_rfl
@[simp] theorem uslice43 : uslice Try.prog 43 = none := by kernel_rfl
@[simp] theorem uarr43 : uarr Try.prog 43 = none := by kernel_rfl
@[simp] theorem uint43 : uint Try.prog 43 = some .u32 := by kernel_rfl
@[simp] theorem ustr43 : ustr Try.prog 43 = false := by kernel_rfl
@[simp] theorem uiface43 : uiface Try.prog 43 = some false := by kernel_rfl
@[simp] theorem uzero43 : uzero Try.prog 43 = some [.int .u32 0] := by kernel_rfl
@[simp] theorem usz44 : usz Try.prog 44 = some 8 := by kernel_rfl
@[simp] theorem ubytes44 : ubytes Try.prog 44 = some 32 := by kernel_rfl
@[simp] theorem uagg44 : uagg Try.prog 44 = some true := by kernel_rfl
@[simp] theorem uslice44 : uslice Try.prog 44 = none := by kernel_rfl
@[simp] theorem uarr44 : uarr Try.prog 44 = some (8, 43) := by kernel_rfl
@[simp] theorem uint44 : uint Try.prog 44 = none := by kernel_rfl
@[simp] theorem ustr44 : ustr Try.prog 44 = false := by kernel_rfl
@[simp] theorem uiface44 : uiface Try.prog 44 = some false := by kernel_rfl
@[simp] theorem uplace44 (i : Nat) : uplace Try.prog 44 i = some (i * 1, 1) := by kernel_rfl
@[simp] theorem uplaces44 : (uplaces Try.prog 44).isSome = true := by kernel_rfl
@[simp] theorem uzero44 : uzero Try.prog 44 = some [.int .u32 0, .int .u32 0, .int .u32 0, .int .u32 0, .int .u32 0, .int .u32 0, .int .u32 0, .int .u32 0] := by kernel_rfl
@[simp] theorem usz45 : usz Try.prog 45 = some 8 := by kernel_rfl
@[simp] theorem ubytes45 : ubytes Try.prog 45 = some 32 := by kernel_rfl
@[simp] theorem uagg45 : uagg Try.prog 45 = some true := by kernel_rfl
@[simp] theorem uslice45 : uslice Try.prog 45 = none := by kernel_rfl
@[simp] theorem uarr45 : uarr Try.prog 45 = some (8, 43) := by kernel_rfl
@[simp] theorem uint45 : uint Try.prog 45 = none := by kernel_rfl
@[simp] theorem ustr45 : ustr Try.prog 45 = false := by kernel_rfl
@[simp] theorem uiface45 : uiface Try.prog 45 = some false := by kernel_rfl
@[simp] theorem uplace45 (i : Nat) : uplace Try.prog 45 i = some (i * 1, 1) := by kernel_rfl
@[simp] theorem uplaces45 : (uplaces Try.prog 45).isSome = true := by kernel_rfl
@[simp] theorem uzero45 : uzero Try.prog 45 = some [.int .u32 0, .int .u32 0, .int .u32 0, .int .u32 0, .int .u32 0, .int .u32 0, .int .u32 0, .int .u32 0] := by kernel_rfl
@[simp] theorem usz46 : usz Try.prog 46 = some 10 := by kernel_rfl
@[simp] theorem ubytes46 : ubytes Try.prog 46 = some 64 := by kernel_rfl
@[simp] theorem uagg46 : uagg Try.prog 46 = some true := by kernel_rfl
@[simp] theorem uslice46 : uslice Try.prog 46 = none := by kernel_rfl
@[simp] theorem uarr46 : uarr Try.prog 46 = none := by kernel_rfl
@[simp] theorem uint46 : uint Try.prog 46 = none := by kernel_rfl
@[simp] theorem ustr46 : ustr Try.prog 46 = false := by kernel_rfl
@[simp] theorem uiface46 : uiface Try.prog 46 = some false := by kernel_rfl
@[simp] theorem ufield46_0 : ufield Try.prog 46 0 = some (45, 0) := by kernel_rfl
@[simp] theorem uplace46_0 : uplace Try.prog 46 0 = some (0, 8) := by kernel_rfl
@[simp] theorem ufield46_1 : ufield Try.prog 46 1 = some (24, 8) := by kernel_rfl
@[simp] theorem uplace46_1 : uplace Try.prog 46 1 = some (8, 1) := by kernel_rfl
@[simp] theorem ufield46_2 : ufield Try.prog 46 2 = some (3, 9) := by kernel_rfl
@[simp] theorem uplace46_2 : uplace Try.prog 46 2 = some (9, 1) := by kernel_rfl
@[simp] theorem uplaces46 : (uplaces Try.prog 46).isSome = true := by kernel_rfl
@[simp] theorem uzero46 : uzero Try.prog 46 = some [.int .u32 0, .int .u32 0, .int .u32 0, .int .u32 0, .int .u32 0, .int .u32 0, .int .u32 0, .int .u32 0, .nils, .int .i64 0] := by kernel_rfl
@[simp] theorem usz47 : usz Try.prog 47 = some 10 := by kernel_rfl
@[simp] theorem ubytes47 : ubytes Try.prog 47 = some 64 := by kernel_rfl
@[simp] theorem uagg47 : uagg Try.prog 47 = some true := by kernel_rfl
@[simp] theorem uslice47 : uslice Try.prog 47 = none := by kernel_rfl
@[simp] theorem uarr47 : uarr Try.prog 47 = none := by kernel_rfl
@[simp] theorem uint47 : uint Try.prog 47 = none := by kernel_rfl
@[simp] theorem ustr47 : ustr Try.prog 47 = false := by kernel_rfl
@[simp] theorem uiface47 : uiface Try.prog 47 = some false := by kernel_rfl
@[simp] theorem ufield47_0 : ufield Try.prog 47 0 = some (45, 0) := by kernel_rfl
@[simp] theorem uplace47_0 : uplace Try.prog 47 0 = some (0, 8) := by kernel_rfl
@[simp] theorem ufield47_1 : ufield Try.prog 47 1 = some (24, 8) := by kernel_rfl
@[simp] theorem uplace47_1 : uplace Try.prog 47 1 = some (8, 1) := by kernel_rfl
@[simp] theorem ufield47_2 : ufield Try.prog 47 2 = some (3, 9) := by kernel_rfl
@[simp] theorem uplace47_2 : uplace Try.prog 47 2 = some (9, 1) := by kernel_rfl
@[simp] theorem uplaces47 : (uplaces Try.prog 47).isSome = true := by kernel_rfl
@[simp] theorem uzero47 : uzero Try.prog 47 = some [.int .u32 0, .int .u32 0, .int .u32 0, .int .u32 0, .int .u32 0, .int .u32 0, .int .u32 0, .int .u32 0, .nils, .int .i64 0] := by kernel_rfl
@[simp] theorem usz48 : usz Try.prog 48 = some 1 := by kernel_rfl
@[simp] theorem ubytes48 : ubytes Try.prog 48 = some 8 := by kernel_rfl
@[simp] theorem uagg48 : uagg Try.prog 48 = some false := by kernel_rfl
@[simp] theorem uslice48 : uslice Try.prog 48 = none := by kernel_rfl
@[simp] theorem uarr48 : uarr Try.prog 48 = none := by kernel_rfl
@[simp] theorem uint48 : uint Try.prog 48 = none := by kernel_rfl
@[simp] theorem ustr48 : ustr Try.prog 48 = false := by kernel_rfl
@[simp] theorem uiface48 : uiface Try.prog 48 = some false := by kernel_rfl
@[simp] theorem uzero48 : uzero Try.prog 48 = some [.nilf] := by kernel_rfl
@[simp] theorem usz49 : usz Try.prog 49 = some 1 := by kernel_rfl
@[simp] theorem ubytes49 : ubytes Try.prog 49 = some 0 := by kernel_rfl
@[simp] theorem uagg49 : uagg Try.prog 49 = some false := by kernel_rfl
@[simp] theorem uslice49 : uslice Try.prog 49 = none := by kernel_rfl
@[simp] theorem uarr49 : uarr Try.prog 49 = none := by kernel_rfl
@[simp] theorem uint49 : uint Try.prog 49 = none := by kernel_rfl
@[simp] theorem ustr49 : ustr Try.prog 49 = false := by kernel_rfl
@[simp] theorem uiface49 : uiface Try.prog 49 = some false := by kernel_rfl
@[simp] theorem usz50 : usz Try.prog 50 = some 1 := by kernel_rfl
@[simp] theorem ubytes50 : ubytes Try.prog 50 = some 8 := by kernel_rfl
@[simp] theorem uagg50 : uagg Try.prog 50 = some false := by kernel_rfl
@[simp] theorem uslice50 : uslice Try.prog 50 = none := by kernel_rfl
@[simp] theorem uarr50 : uarr Try.prog 50 = none := by kernel_rfl
@[simp] theorem uint50 : uint Try.prog 50 = none := by kernel_rfl
@[simp] theorem ustr50 : ustr Try.prog 50 = false := by kernel_rfl
@[simp] theorem uiface50 : uiface Try.prog 50 = some false := by kernel_rfl
@[simp] theorem uzero50 : uzero Try.prog 50 = some [.nilf] := by kernel_rfl
@[simp] theorem usz51 : usz Try.prog 51 = some 1 := by kernel_rfl
@[simp] theorem ubytes51 : ubytes Try.prog 51 = some 8 := by kernel_rfl
@[simp] theorem uagg51 : uagg Try.prog 51 = some false := by kernel_rfl
@[simp] theorem uslice51 : uslice Try.prog 51 = none := by kernel_rfl
@[simp] theorem uarr51 : uarr Try.prog 51 = none := by kernel_rfl
@[simp] theorem uint51 : uint Try.prog 51 = none := by kernel_rfl
@[simp] theorem ustr51 : ustr Try.prog 51 = false := by kernel_rfl
@[simp] theorem uiface51 : uiface Try.prog 51 = some false := by kernel_rfl
@[simp] theorem uzero51 : uzero Try.prog 51 = some [.nilf] := by kernel_rfl
@[simp] theorem usz52 : usz Try.prog 52 = some 1 := by kernel_rfl
@[simp] theorem ubytes52 : ubytes Try.prog 52 = some 8 := by kernel_rfl
@[simp] theorem uagg52 : uagg Try.prog 52 = some false := by kernel_rfl
@[simp] theorem uslice52 : uslice Try.prog 52 = none := by kernel_rfl
@[simp] theorem uarr52 : uarr Try.prog 52 = none := by kernel_rfl
@[simp] theorem uint52 : uint Try.prog 52 = none := by kernel_rfl
@[simp] theorem ustr52 : ustr Try.prog 52 = false := by kernel_rfl
@[simp] theorem uiface52 : uiface Try.prog 52 = some false := by kernel_rfl
@[simp] theorem uptr52 : uptr Try.prog 52 = true := by kernel_rfl
@[simp] theorem uzero52 : uzero Try.prog 52 = some [.nilp] := by kernel_rfl
@[simp] theorem usz53 : usz Try.prog 53 = some 1 := by kernel_rfl
@[simp] theorem ubytes53 : ubytes Try.prog 53 = some 8 := by kernel_rfl
@[simp] theorem uagg53 : uagg Try.prog 53 = some false := by kernel_rfl
@[simp] theorem uslice53 : uslice Try.prog 53 = none := by kernel_rfl
@[simp] theorem uarr53 : uarr Try.prog 53 = none := by kernel_rfl
@[simp] theorem uint53 : uint Try.prog 53 = none := by kernel_rfl
@[simp] theorem ustr53 : ustr Try.prog 53 = false := by kernel_rfl
@[simp] theorem uiface53 : uiface Try.prog 53 = some false := by kernel_rfl
@[simp] theorem uzero53 : uzero Try.prog 53 = some [.nilf] := by kernel_rfl
@[simp] theorem usz54 : usz Try.prog 54 = some 1 := by kernel_rfl
@[simp] theorem ubytes54 : ubytes Try.prog 54 = some 0 := by kernel_rfl
@[simp] theorem uagg54 : uagg Try.prog 54 = some false := by kernel_rfl
@[simp] theorem uslice54 : uslice Try.prog 54 = none := by kernel_rfl
@[simp] theorem uarr54 : uarr Try.prog 54 = none := by kernel_rfl
@[simp] theorem uint54 : uint Try.prog 54 = none := by kernel_rfl
@[simp] theorem ustr54 : ustr Try.prog 54 = false := by kernel_rfl
@[simp] theorem uiface54 : uiface Try.prog 54 = some false := by kernel_rfl
@[simp] theorem usz55 : usz Try.prog 55 = some 1 := by kernel_rfl
@[simp] theorem ubytes55 : ubytes Try.prog 55 = some 8 := by kernel_rfl
@[simp] theorem uagg55 : uagg Try.prog 55 = some false := by kernel_rfl
@[simp] theorem uslice55 : uslice Try.prog 55 = none := by kernel_rfl
@[simp] theorem uarr55 : uarr Try.prog 55 = none := by kernel_rfl
@[simp] theorem uint55 : uint Try.prog 55 = none := by kernel_rfl
@[simp] theorem ustr55 : ustr Try.prog 55 = false := by kernel_rfl
@[simp] theorem uiface55 : uiface Try.prog 55 = some false := by kernel_rfl
@[simp] theorem uzero55 : uzero Try.prog 55 = some [.nilf] := by kernel_rfl
@[simp] theorem usz56 : usz Try.prog 56 = some 1 := by kernel_rfl
@[simp] theorem ubytes56 : ubytes Try.prog 56 = some 8 := by kernel_rfl
@[simp] theorem uagg56 : uagg Try.prog 56 = some false := by kernel_rfl
@[simp] theorem uslice56 : uslice Try.prog 56 = none := by kernel_rfl
@[simp] theorem uarr56 : uarr Try.prog 56 = none := by kernel_rfl
@[simp] theorem uint56 : uint Try.prog 56 = none := by kernel_rfl
@[simp] theorem ustr56 : ustr Try.prog 56 = false := by kernel_rfl
@[simp] theorem uiface56 : uiface Try.prog 56 = some false := by kernel_rfl
@[simp] theorem uzero56 : uzero Try.prog 56 = some [.nilf] := by kernel_rfl
@[simp] theorem usz57 : usz Try.prog 57 = some 1 := by kernel_rfl
@[simp] theorem ubytes57 : ubytes Try.prog 57 = some 8 := by kernel_rfl
@[simp] theorem uagg57 : uagg Try.prog 57 = some false := by kernel_rfl
@[simp] theorem uslice57 : uslice Try.prog 57 = none := by kernel_rfl
@[simp] theorem uarr57 : uarr Try.prog 57 = none := by kernel_rfl
@[simp] theorem uint57 : uint Try.prog 57 = none := by kernel_rfl
@[simp] theorem ustr57 : ustr Try.prog 57 = false := by kernel_rfl
@[simp] theorem uiface57 : uiface Try.prog 57 = some false := by kernel_rfl
@[simp] theorem uzero57 : uzero Try.prog 57 = some [.nilf] := by kernel_rfl
@[simp] theorem usz58 : usz Try.prog 58 = some 1 := by kernel_rfl
@[simp] theorem ubytes58 : ubytes Try.prog 58 = some 8 := by kernel_rfl
@[simp] theorem uagg58 : uagg Try.prog 58 = some false := by kernel_rfl
@[simp] theorem uslice58 : uslice Try.prog 58 = none := by kernel_rfl
@[simp] theorem uarr58 : uarr Try.prog 58 = none := by kernel_rfl
@[simp] theorem uint58 : uint Try.prog 58 = none := by kernel_rfl
@[simp] theorem ustr58 : ustr Try.prog 58 = false := by kernel_rfl
@[simp] theorem uiface58 : uiface Try.prog 58 = some false := by kernel_rfl
@[simp] theorem uzero58 : uzero Try.prog 58 = some [.nilf] := by kernel_rfl
@[simp] theorem usz59 : usz Try.prog 59 = some 1 := by kernel_rfl
@[simp] theorem ubytes59 : ubytes Try.prog 59 = some 8 := by kernel_rfl
@[simp] theorem uagg59 : uagg Try.prog 59 = some false := by kernel_rfl
@[simp] theorem uslice59 : uslice Try.prog 59 = none := by kernel_rfl
@[simp] theorem uarr59 : uarr Try.prog 59 = none := by kernel_rfl
@[simp] theorem uint59 : uint Try.prog 59 = none := by kernel_rfl
@[simp] theorem ustr59 : ustr Try.prog 59 = false := by kernel_rfl
@[simp] theorem uiface59 : uiface Try.prog 59 = some false := by kernel_rfl
@[simp] theorem uzero59 : uzero Try.prog 59 = some [.nilf] := by kernel_rfl
@[simp] theorem usz60 : usz Try.prog 60 = some 1 := by kernel_rfl
@[simp] theorem ubytes60 : ubytes Try.prog 60 = some 8 := by kernel_rfl
@[simp] theorem uagg60 : uagg Try.prog 60 = some false := by kernel_rfl
@[simp] theorem uslice60 : uslice Try.prog 60 = none := by kernel_rfl
@[simp] theorem uarr60 : uarr Try.prog 60 = none := by kernel_rfl
@[simp] theorem uint60 : uint Try.prog 60 = none := by kernel_rfl
@[simp] theorem ustr60 : ustr Try.prog 60 = false := by kernel_rfl
@[simp] theorem uiface60 : uiface Try.prog 60 = some false := by kernel_rfl
@[simp] theorem uzero60 : uzero Try.prog 60 = some [.nilf] := by kernel_rfl
@[simp] theorem usz61 : usz Try.prog 61 = some 1 := by kernel_rfl
@[simp] theorem ubytes61 : ubytes Try.prog 61 = some 8 := by kernel_rfl
@[simp] theorem uagg61 : uagg Try.prog 61 = some false := by kernel_rfl
@[simp] theorem uslice61 : uslice Try.prog 61 = none := by kernel_rfl
@[simp] theorem uarr61 : uarr Try.prog 61 = none := by kernel_rfl
@[simp] theorem uint61 : uint Try.prog 61 = none := by kernel_rfl
@[simp] theorem ustr61 : ustr Try.prog 61 = false := by kernel_rfl
@[simp] theorem uiface61 : uiface Try.prog 61 = some false := by kernel_rfl
@[simp] theorem uzero61 : uzero Try.prog 61 = some [.nilf] := by kernel_rfl
@[simp] theorem usz62 : usz Try.prog 62 = some 1 := by kernel_rfl
@[simp] theorem ubytes62 : ubytes Try.prog 62 = some 8 := by kernel_rfl
@[simp] theorem uagg62 : uagg Try.prog 62 = some false := by kernel_rfl
@[simp] theorem uslice62 : uslice Try.prog 62 = none := by kernel_rfl
@[simp] theorem uarr62 : uarr Try.prog 62 = none := by kernel_rfl
@[simp] theorem uint62 : uint Try.prog 62 = none := by kernel_rfl
@[simp] theorem ustr62 : ustr Try.prog 62 = false := by kernel_rfl
@[simp] theorem uiface62 : uiface Try.prog 62 = some false := by kernel_rfl
@[simp] theorem uzero62 : uzero Try.prog 62 = some [.nilf] := by kernel_rfl
@[simp] theorem usz63 : usz Try.prog 63 = some 1 := by kernel_rfl
@[simp] theorem ubytes63 : ubytes Try.prog 63 = some 8 := by kernel_rfl
@[simp] theorem uagg63 : uagg Try.prog 63 = some false := by kernel_rfl
@[simp] theorem uslice63 : uslice Try.prog 63 = none := by kernel_rfl
@[simp] theorem uarr63 : uarr Try.prog 63 = none := by kernel_rfl
@[simp] theorem uint63 : uint Try.prog 63 = none := by kernel_rfl
@[simp] theorem ustr63 : ustr Try.prog 63 = false := by kernel_rfl
@[simp] theorem uiface63 : uiface Try.prog 63 = some false := by kernel_rfl
@[simp] theorem uzero63 : uzero Try.prog 63 = some [.nilf] := by kernel_rfl
@[simp] theorem usz64 : usz Try.prog 64 = some 1 := by kernel_rfl
@[simp] theorem ubytes64 : ubytes Try.prog 64 = some 8 := by kernel_rfl
@[simp] theorem uagg64 : uagg Try.prog 64 = some false := by kernel_rfl
@[simp] theorem uslice64 : uslice Try.prog 64 = none := by kernel_rfl
@[simp] theorem uarr64 : uarr Try.prog 64 = none := by kernel_rfl
@[simp] theorem uint64 : uint Try.prog 64 = none := by kernel_rfl
@[simp] theorem ustr64 : ustr Try.prog 64 = false := by kernel_rfl
@[simp] theorem uiface64 : uiface Try.prog 64 = some false := by kernel_rfl
@[simp] theorem uzero64 : uzero Try.prog 64 = some [.nilf] := by kernel_rfl
@[simp] theorem usz65 : usz Try.prog 65 = some 1 := by kernel_rfl
@[simp] theorem ubytes65 : ubytes Try.prog 65 = some 8 := by kernel_rfl
@[simp] theorem uagg65 : uagg Try.prog 65 = some false := by kernel_rfl
@[simp] theorem uslice65 : uslice Try.prog 65 = none := by kernel_rfl
@[simp] theorem uarr65 : uarr Try.prog 65 = none := by kernel_rfl
@[simp] theorem uint65 : uint Try.prog 65 = some .u64 := by kernel_rfl
@[simp] theorem ustr65 : ustr Try.prog 65 = false := by kernel_rfl
@[simp] theorem uiface65 : uiface Try.prog 65 = some false := by kernel_rfl
@[simp] theorem uzero65 : uzero Try.prog 65 = some [.int .u64 0] := by kernel_rfl
@[simp] theorem usz66 : usz Try.prog 66 = some 1 := by kernel_rfl
@[simp] theorem ubytes66 : ubytes Try.prog 66 = some 24 := by kernel_rfl
@[simp] theorem uagg66 : uagg Try.prog 66 = some false := by kernel_rfl
@[simp] theorem uslice66 : uslice Try.prog 66 = some 43 := by kernel_rfl
@[simp] theorem uarr66 : uarr Try.prog 66 = none := by kernel_rfl
@[simp] theorem uint66 : uint Try.prog 66 = none := by kernel_rfl
@[simp] theorem ustr66 : ustr Try.prog 66 = false := by kernel_rfl
@[simp] theorem uiface66 : uiface Try.prog 66 = some false := by kernel_rfl
@[simp] theorem uzero66 : uzero Try.prog 66 = some [.nils] := by kernel_rfl
@[simp] theorem usz67 : usz Try.prog 67 = some 1 := by kernel_rfl
@[simp] theorem ubytes67 : ubytes Try.prog 67 = some 8 := by kernel_rfl
@[simp] theorem uagg67 : uagg Try.prog 67 = some false := by kernel_rfl
@[simp] theorem uslice67 : uslice Try.prog 67 = none := by kernel_rfl
@[simp] theorem uarr67 : uarr Try.prog 67 = none := by kernel_rfl
@[simp] theorem uint67 : uint Try.prog 67 = none := by kernel_rfl
@[simp] theorem ustr67 : ustr Try.prog 67 = false := by kernel_rfl
@[simp] theorem uiface67 : uiface Try.prog 67 = some false := by kernel_rfl
@[simp] theorem uzero67 : uzero Try.prog 67 = some [.nilf] := by kernel_rfl
@[simp] theorem usz68 : usz Try.prog 68 = some 1 := by kernel_rfl
@[simp] theorem ubytes68 : ubytes Try.prog 68 = some 8 := by kernel_rfl
@[simp] theorem uagg68 : uagg Try.prog 68 = some false := by kernel_rfl
@[simp] theorem uslice68 : uslice Try.prog 68 = none := by kernel_rfl
@[simp] theorem uarr68 : uarr Try.prog 68 = none := by kernel_rfl
@[simp] theorem uint68 : uint Try.prog 68 = none := by kernel_rfl
@[simp] theorem ustr68 : ustr Try.prog 68 = false := by kernel_rfl
@[simp] theorem uiface68 : uiface Try.prog 68 = some false := by kernel_rfl
@[simp] theorem uzero68 : uzero Try.prog 68 = some [.nilf] := by kernel_rfl
@[simp] theorem usz69 : usz Try.prog 69 = some 1 := by kernel_rfl
@[simp] theorem ubytes69 : ubytes Try.prog 69 = some 8 := by kernel_rfl
@[simp] theorem uagg69 : uagg Try.prog 69 = some false := by kernel_rfl
@[simp] theorem uslice69 : uslice Try.prog 69 = none := by kernel_rfl
@[simp] theorem uarr69 : uarr Try.prog 69 = none := by kernel_rfl
@[simp] theorem uint69 : uint Try.prog 69 = none := by kernel_rfl
@[simp] theorem ustr69 : ustr Try.prog 69 = false := by kernel_rfl
@[simp] theorem uiface69 : uiface Try.prog 69 = some false := by kernel_rfl
@[simp] theorem uzero69 : uzero Try.prog 69 = some [.nilf] := by kernel_rfl
@[simp] theorem usz70 : usz Try.prog 70 = some 1 := by kernel_rfl
@[simp] theorem ubytes70 : ubytes Try.prog 70 = some 8 := by kernel_rfl
@[simp] theorem uagg70 : uagg Try.prog 70 = some false := by kernel_rfl
@[simp] theorem uslice70 : uslice Try.prog 70 = none := by kernel_rfl
@[simp] theorem uarr70 : uarr Try.prog 70 = none := by kernel_rfl
@[simp] theorem uint70 : uint Try.prog 70 = some .u64 := by kernel_rfl
@[simp] theorem ustr70 : ustr Try.prog 70 = false := by kernel_rfl
@[simp] theorem uiface70 : uiface Try.prog 70 = some false := by kernel_rfl
@[simp] theorem uzero70 : uzero Try.prog 70 = some [.int .u64 0] := by kernel_rfl
@[simp] theorem usz71 : usz Try.prog 71 = some 1 := by kernel_rfl
@[simp] theorem ubytes71 : ubytes Try.prog 71 = some 8 := by kernel_rfl
@[simp] theorem uagg71 : uagg Try.prog 71 = some false := by kernel_rfl
@[simp] theorem uslice71 : uslice Try.prog 71 = none := by kernel_rfl
@[simp] theorem uarr71 : uarr Try.prog 71 = none := by kernel_rfl
@[simp] theorem uint71 : uint Try.prog 71 = none := by kernel_rfl
@[simp] theorem ustr71 : ustr Try.prog 71 = false := by kernel_rfl
@[simp] theorem uiface71 : uiface Try.prog 71 = some false := by kernel_rfl
@[simp] theorem uzero71 : uzero Try.prog 71 = some [.nilf] := by kernel_rfl
@[simp] theorem usz72 : usz Try.prog 72 = some 2 := by kernel_rfl
@[simp] theorem ubytes72 : ubytes Try.prog 72 = some 32 := by kernel_rfl
@[simp] theorem uagg72 : uagg Try.prog 72 = some true := by kernel_rfl
@[simp] theorem uslice72 : uslice Try.prog 72 = none := by kernel_rfl
@[simp] theorem uarr72 : uarr Try.prog 72 = none := by kernel_rfl
@[simp] theorem uint72 : uint Try.prog 72 = none := by kernel_rfl
@[simp] theorem ustr72 : ustr Try.prog 72 = false := by kernel_rfl
@[simp] theorem uiface72 : uiface Try.prog 72 = some false := by kernel_rfl
@[simp] theorem ufield72_0 : ufield Try.prog 72 0 = some (27, 0) := by kernel_rfl
@[simp] theorem uplace72_0 : uplace Try.prog 72 0 = some (0, 1) := by kernel_rfl
@[simp] theorem ufield72_1 : ufield Try.prog 72 1 = some (3, 1) := by kernel_rfl
@[simp] theorem uplace72_1 : uplace Try.prog 72 1 = some (1, 1) := by kernel_rfl
@[simp] theorem uplaces72 : (uplaces Try.prog 72).isSome = true := by kernel_rfl
@[simp] theorem uzero72 : uzero Try.prog 72 = some [.nils, .int .i64 0] := by kernel_rfl
@[simp] theorem usz73 : usz Try.prog 73 = some 2 := by kernel_rfl
@[simp] theorem ubytes73 : ubytes Try.prog 73 = some 32 := by kernel_rfl
@[simp] theorem uagg73 : uagg Try.prog 73 = some true := by kernel_rfl
@[simp] theorem uslice73 : uslice Try.prog 73 = none := by kernel_rfl
@[simp] theorem uarr73 : uarr Try.prog 73 = none := by kernel_rfl
@[simp] theorem uint73 : uint Try.prog 73 = none := by kernel_rfl
@[simp] theorem ustr73 : ustr Try.prog 73 = false := by kernel_rfl
@[simp] theorem uiface73 : uiface Try.prog 73 = some false := by kernel_rfl
@[simp] theorem ufield73_0 : ufield Try.prog 73 0 = some (27, 0) := by kernel_rfl
@[simp] theorem uplace73_0 : uplace Try.prog 73 0 = some (0, 1) := by kernel_rfl
@[simp] theorem ufield73_1 : ufield Try.prog 73 1 = some (3, 1) := by kernel_rfl
@[simp] theorem uplace73_1 : uplace Try.prog 73 1 = some (1, 1) := by kernel_rfl
@[simp] theorem uplaces73 : (uplaces Try.prog 73).isSome = true := by kernel_rfl
@[simp] theorem uzero73 : uzero Try.prog 73 = some [.nils, .int .i64 0] := by kernel_rfl
@[simp] theorem usz74 : usz Try.prog 74 = some 1 := by kernel_rfl
@[simp] theorem ubytes74 : ubytes Try.prog 74 = some 8 := by kernel_rfl
@[simp] theorem uagg74 : uagg Try.prog 74 = some false := by kernel_rfl
@[simp] theorem uslice74 : uslice Try.prog 74 = none := by kernel_rfl
@[simp] theorem uarr74 : uarr Try.prog 74 = none := by kernel_rfl
@[simp] theorem uint74 : uint Try.prog 74 = none := by kernel_rfl
@[simp] theorem ustr74 : ustr Try.prog 74 = false := by kernel_rfl
@[simp] theorem uiface74 : uiface Try.prog 74 = some false := by kernel_rfl
@[simp] theorem uzero74 : uzero Try.prog 74 = some [.nilf] := by kernel_rfl
@[simp] theorem usz75 : usz Try.prog 75 = some 1 := by kernel_rfl
@[simp] theorem ubytes75 : ubytes Try.prog 75 = some 8 := by kernel_rfl
@[simp] theorem uagg75 : uagg Try.prog 75 = some false := by kernel_rfl
@[simp] theorem uslice75 : uslice Try.prog 75 = none := by kernel_rfl
@[simp] theorem uarr75 : uarr Try.prog 75 = none := by kernel_rfl
@[simp] theorem uint75 : uint Try.prog 75 = none := by kernel_rfl
@[simp] theorem ustr75 : ustr Try.prog 75 = false := by kernel_rfl
@[simp] theorem uiface75 : uiface Try.prog 75 = some false := by kernel_rfl
@[simp] theorem uzero75 : uzero Try.prog 75 = some [.nilf] := by kernel_rfl
@[simp] theorem usz76 : usz Try.prog 76 = some 1 := by kernel_rfl
@[simp] theorem ubytes76 : ubytes Try.prog 76 = some 8 := by kernel_rfl
@[simp] theorem uagg76 : uagg Try.prog 76 = some false := by kernel_rfl
@[simp] theorem uslice76 : uslice Try.prog 76 = none := by kernel_rfl
@[simp] theorem uarr76 : uarr Try.prog 76 = none := by kernel_rfl
@[simp] theorem uint76 : uint Try.prog 76 = none := by kernel_rfl
@[simp] theorem ustr76 : ustr Try.prog 76 = false := by kernel_rfl
@[simp] theorem uiface76 : uiface Try.prog 76 = some false := by kernel_rfl
@[simp] theorem uzero76 : uzero Try.prog 76 = some [.nilf] := by kernel_rfl
@[simp] theorem usz77 : usz Try.prog 77 = some 1 := by kernel_rfl
@[simp] theorem ubytes77 : ubytes Try.prog 77 = some 8 := by kernel_rfl
@[simp] theorem uagg77 : uagg Try.prog 77 = some false := by kernel_rfl
@[simp] theorem uslice77 : uslice Try.prog 77 = none := by kernel_rfl
@[simp] theorem uarr77 : uarr Try.prog 77 = none := by kernel_rfl
@[simp] theorem uint77 : uint Try.prog 77 = none := by kernel_rfl
@[simp] theorem ustr77 : ustr Try.prog 77 = false := by kernel_rfl
@[simp] theorem uiface77 : uiface Try.prog 77 = some false := by kernel_rfl
@[simp] theorem uzero77 : uzero Try.prog 77 = some [.nilf] := by kernel_rfl
@[simp] theorem usz78 : usz Try.prog 78 = some 1 := by kernel_rfl
@[simp] theorem ubytes78 : ubytes Try.prog 78 = some 8 := by kernel_rfl
@[simp] theorem uagg78 : uagg Try.prog 78 = some false := by kernel_rfl
@[simp] theorem uslice78 : uslice Try.prog 78 = none := by kernel_rfl
@[simp] theorem uarr78 : uarr Try.prog 78 = none := by kernel_rfl
@[simp] theorem uint78 : uint Try.prog 78 = none := by kernel_rfl
@[simp] theorem ustr78 : ustr Try.prog 78 = false := by kernel_rfl
@[simp] theorem uiface78 : uiface Try.prog 78 = some false := by kernel_rfl
@[simp] theorem uzero78 : uzero Try.prog 78 = some [.nilf] := by kernel_rfl
@[simp] theorem usz79 : usz Try.prog 79 = some 1 := by kernel_rfl
@[simp] theorem ubytes79 : ubytes Try.prog 79 = some 8 := by kernel_rfl
@[simp] theorem uagg79 : uagg Try.prog 79 = some false := by kernel_rfl
@[simp] theorem uslice79 : uslice Try.prog 79 = none := by kernel_rfl
@[simp] theorem uarr79 : uarr Try.prog 79 = none := by kernel_rfl
@[simp] theorem uint79 : uint Try.prog 79 = none := by kernel_rfl
@[simp] theorem ustr79 : ustr Try.prog 79 = false := by kernel_rfl
@[simp] theorem uiface79 : uiface Try.prog 79 = some false := by kernel_rfl
@[simp] theorem uzero79 : uzero Try.prog 79 = some [.nilf] := by kernel_rfl
@[simp] theorem usz80 : usz Try.prog 80 = some 1 := by kernel_rfl
@[simp] theorem ubytes80 : ubytes Try.prog 80 = some 8 := by kernel_rfl
@[simp] theorem uagg80 : uagg Try.prog 80 = some false := by kernel_rfl
@[simp] theorem uslice80 : uslice Try.prog 80 = none := by kernel_rfl
@[simp] theorem uarr80 : uarr Try.prog 80 = none := by kernel_rfl
@[simp] theorem uint80 : uint Try.prog 80 = none := by kernel_rfl
@[simp] theorem ustr80 : ustr Try.prog 80 = false := by kernel_rfl
@[simp] theorem uiface80 : uiface Try.prog 80 = some false := by kernel_rfl
@[simp] theorem uzero80 : uzero Try.prog 80 = some [.nilf] := by kernel_rfl
@[simp] theorem usz81 : usz Try.prog 81 = some 64 := by kernel_rfl
@[simp] theorem ubytes81 : ubytes Try.prog 81 = some 256 := by kernel_rfl
@[simp] theorem uagg81 : uagg Try.prog 81 = some true := by kernel_rfl
@[simp] theorem uslice81 : uslice Try.prog 81 = none := by kernel_rfl
@[simp] theorem uarr81 : uarr Try.prog 81 = some (64, 43) := by kernel_rfl
@[simp] theorem uint81 : uint Try.prog 81 = none := by kernel_rfl
@[simp] theorem ustr81 : ustr Try.prog 81 = false := by kernel_rfl
@[simp] theorem uiface81 : uiface Try.prog 81 = some false := by kernel_rfl
@[simp] theorem uplace81 (i : Nat) : uplace Try.prog 81 i = some (i * 1, 1) := by kernel_rfl
@[simp] theorem uplaces81 : (uplaces Try.prog 81).isSome = true := by kernel_rfl
@[simp] theorem uzero81 : uzero Try.prog 81 = some (List.replicate 64 (.int .u32 0 : V)) := by kernel_rfl
@[simp] theorem usz82 : usz Try.prog 82 = some 1 := by kernel_rfl
@[simp] theorem ubytes82 : ubytes Try.prog 82 = some 8 := by kernel_rfl
@[simp] theorem uagg82 : uagg Try.prog 82 = some false := by kernel_rfl
@[simp] theorem uslice82 : uslice Try.prog 82 = none := by kernel_rfl
@[simp] theorem uarr82 : uarr Try.prog 82 = none := by kernel_rfl
@[simp] theorem uint82 : uint Try.prog 82 = none := by kernel_rfl
@[simp] theorem ustr82 : ustr Try.prog 82 = false := by kernel_rfl
@[simp] theorem uiface82 : uiface Try.prog 82 = some false := by kernel_rfl
@[simp] theorem uzero82 : uzero Try.prog 82 = some [.nilf] := by kernel_rfl
@[simp] theorem usz83 : usz Try.prog 83 = some 1 := by kernel_rfl
@[simp] theorem ubytes83 : ubytes Try.prog 83 = some 8 := by kernel_rfl
@[simp] theorem uagg83 : uagg Try.prog 83 = some false := by kernel_rfl
@[simp] theorem uslice83 : uslice Try.prog 83 = none := by kernel_rfl
@[simp] theorem uarr83 : uarr Try.prog 83 = none := by kernel_rfl
@[simp] theorem uint83 : uint Try.prog 83 = none := by kernel_rfl
@[simp] theorem ustr83 : ustr Try.prog 83 = false := by kernel_rfl
@[simp] theorem uiface83 : uiface Try.prog 83 = some false := by kernel_rfl
@[simp] theorem uzero83 : uzero Try.prog 83 = some [.nilf] := by kernel_rfl
@[simp] theorem usz84 : usz Try.prog 84 = some 4 := by kernel_rfl
@[simp] theorem ubytes84 : ubytes Try.prog 84 = some 40 := by kernel_rfl
@[simp] theorem uagg84 : uagg Try.prog 84 = some true := by kernel_rfl
@[simp] theorem uslice84 : uslice Try.prog 84 = none := by kernel_rfl
@[simp] theorem uarr84 : uarr Try.prog 84 = none := by kernel_rfl
@[simp] theorem uint84 : uint Try.prog 84 = none := by kernel_rfl
@[simp] theorem ustr84 : ustr Try.prog 84 = false := by kernel_rfl
@[simp] theorem uiface84 : uiface Try.prog 84 = some false := by kernel_rfl
@[simp] theorem ufield84_0 : ufield Try.prog 84 0 = some (17, 0) := by kernel_rfl
@[simp] theorem uplace84_0 : uplace Try.prog 84 0 = some (0, 1) := by kernel_rfl
@[simp] theorem ufield84_1 : ufield Try.prog 84 1 = some (17, 1) := by kernel_rfl
@[simp] theorem uplace84_1 : uplace Try.prog 84 1 = some (1, 1) := by kernel_rfl
@[simp] theorem ufield84_2 : ufield Try.prog 84 2 = some (17, 2) := by kernel_rfl
@[simp] theorem uplace84_2 : uplace Try.prog 84 2 = some (2, 1) := by kernel_rfl
@[simp] theorem ufield84_3 : ufield Try.prog 84 3 = some (9, 3) := by kernel_rfl
@[simp] theorem uplace84_3 : uplace Try.prog 84 3 = some (3, 1) := by kernel_rfl
@[simp] theorem uplaces84 : (uplaces Try.prog 84).isSome = true := by kernel_rfl
@[simp] theorem uzero84 : uzero Try.prog 84 = some [.nilp, .nilp, .nilp, .str []] := by kernel_rfl
@[simp] theorem usz85 : usz Try.prog 85 = some 4 := by kernel_rfl
@[simp] theorem ubytes85 : ubytes Try.prog 85 = some 40 := by kernel_rfl
@[simp] theorem uagg85 : uagg Try.prog 85 = some true := by kernel_rfl
@[simp] theorem uslice85 : uslice Try.prog 85 = none := by kernel_rfl
@[simp] theorem uarr85 : uarr Try.prog 85 = none := by kernel_rfl
@[simp] theorem uint85 : uint Try.prog 85 = none := by kernel_rfl
@[simp] theorem ustr85 : ustr Try.prog 85 = false := by kernel_rfl
@[simp] theorem uiface85 : uiface Try.prog 85 = some false := by kernel_rfl
@[simp] theorem ufield85_0 : ufield Try.prog 85 0 = some (17, 0) := by kernel_rfl
@[simp] theorem uplace85_0 : uplace Try.prog 85 0 = some (0, 1) := by kernel_rfl
@[simp] theorem ufield85_1 : ufield Try.prog 85 1 = some (17, 1) := by kernel_rfl
@[simp] theorem uplace85_1 : uplace Try.prog 85 1 = some (1, 1) := by kernel_rfl
@[simp] theorem ufield85_2 : ufield Try.prog 85 2 = some (17, 2) := by kernel_rfl
@[simp] theorem uplace85_2 : uplace Try.prog 85 2 = some (2, 1) := by kernel_rfl
@[simp] theorem ufield85_3 : ufield Try.prog 85 3 = some (9, 3) := by kernel_rfl
@[simp] theorem uplace85_3 : uplace Try.prog 85 3 = some (3, 1) := by kernel_rfl
@[simp] theorem uplaces85 : (uplaces Try.prog 85).isSome = true := by kernel_rfl
@[simp] theorem uzero85 : uzero Try.prog 85 = some [.nilp, .nilp, .nilp, .str []] := by kernel_rfl
@[simp] theorem usz86 : usz Try.prog 86 = some 0 := by kernel_rfl
@[simp] theorem ubytes86 : ubytes Try.prog 86 = some 0 := by kernel_rfl
@[simp] theorem uagg86 : uagg Try.prog 86 = some true := by kernel_rfl
@[simp] theorem uslice86 : uslice Try.prog 86 = none := by kernel_rfl
@[simp] theorem uarr86 : uarr Try.prog 86 = some (0, 16) := by kernel_rfl
@[simp] theorem uint86 : uint Try.prog 86 = none := by kernel_rfl
@[simp] theorem ustr86 : ustr Try.prog 86 = false := by kernel_rfl
@[simp] theorem uiface86 : uiface Try.prog 86 = some false := by kernel_rfl
@[simp] theorem uplace86 (i : Nat) : uplace Try.prog 86 i = some (i * 1, 1) := by kernel_rfl
@[simp] theorem uplaces86 : (uplaces Try.prog 86).isSome = true := by kernel_rfl
@[simp] theorem uzero86 : uzero Try.prog 86 = some [] := by kernel_rfl
@[simp] theorem usz87 : usz Try.prog 87 = some 0 := by kernel_rfl
@[simp] theorem ubytes87 : ubytes Try.prog 87 = some 0 := by kernel_rfl
@[simp] theorem uagg87 : uagg Try.prog 87 = some true := by kernel_rfl
@[simp] theorem uslice87 : uslice Try.prog 87 = none := by kernel_rfl
@[simp] theorem uarr87 : uarr Try.prog 87 = none := by kernel_rfl
@[simp] theorem uint87 : uint Try.prog 87 = none := by kernel_rfl
@[simp] theorem ustr87 : ustr Try.prog 87 = false := by kernel_rfl
@[simp] theorem uiface87 : uiface Try.prog 87 = some false := by kernel_rfl
@[simp] theorem ufield87_0 : ufield Try.prog 87 0 = some (86, 0) := by kernel_rfl
@[simp] theorem uplace87_0 : uplace Try.prog 87 0 = some (0, 0) := by kernel_rfl
@[simp] theorem uplaces87 : (uplaces Try.prog 87).isSome = true := by kernel_rfl
@[simp] theorem uzero87 : uzero Try.prog 87 = some [] := by kernel_rfl
@[simp] theorem usz88 : usz Try.prog 88 = some 0 := by kernel_rfl
@[simp] theorem ubytes88 : ubytes Try.prog 88 = some 0 := by kernel_rfl
@[simp] theorem uagg88 : uagg Try.prog 88 = some true := by kernel_rfl
@[simp] theorem uslice88 : uslice Try.prog 88 = none := by kernel_rfl
@[simp] theorem uarr88 : uarr Try.prog 88 = none := by kernel_rfl
@[simp] theorem uint88 : uint Try.prog 88 = none := by kernel_rfl
@[simp] theorem ustr88 : ustr Try.prog 88 = false := by kernel_rfl
@[simp] theorem uiface88 : uiface Try.prog 88 = some false := by kernel_rfl
@[simp] theorem ufield88_0 : ufield Try.prog 88 0 = some (86, 0) := by kernel_rfl
@[simp] theorem uplace88_0 : uplace Try.prog 88 0 = some (0, 0) := by kernel_rfl
@[simp] theorem uplaces88 : (uplaces Try.prog 88).isSome = true := by kernel_rfl
@[simp] theorem uzero88 : uzero Try.prog 88 = some [] := by kernel_rfl
@[simp] theorem usz89 : usz Try.prog 89 = some 1 := by kernel_rfl
@[simp] theorem ubytes89 : ubytes Try.prog 89 = some 1 := by kernel_rfl
@[simp] theorem uagg89 : uagg Try.prog 89 = some false := by kernel_rfl
@[simp] theorem uslice89 : uslice Try.prog 89 = none := by kernel_rfl
@[simp] theorem uarr89 : uarr Try.prog 89 = none := by kernel_rfl
@[simp] theorem uint89 : uint Try.prog 89 = some .u8 := by kernel_rfl
@[simp] theorem ustr89 : ustr Try.prog 89 = false := by kernel_rfl
@[simp] theorem uiface89 : uiface Try.prog 89 = some false := by kernel_rfl
@[simp] theorem uzero89 : uzero Try.prog 89 = some [.int .u8 0] := by kernel_rfl
@[simp] theorem usz90 : usz Try.prog 90 = some 1 := by kernel_rfl
@[simp] theorem ubytes90 : ubytes Try.prog 90 = some 1 := by kernel_rfl
@[simp] theorem uagg90 : uagg Try.prog 90 = some false := by kernel_rfl
@[simp] theorem uslice90 : uslice Try.prog 90 = none := by kernel_rfl
@[simp] theorem uarr90 : uarr Try.prog 90 = none := by kernel_rfl
@[simp] theorem uint90 : uint Try.prog 90 = some .u8 := by kernel_rfl
@[simp] theorem ustr90 : ustr Try.prog 90 = false := by kernel_rfl
@[simp] theorem uiface90 : uiface Try.prog 90 = some false := by kernel_rfl
@[simp] theorem uzero90 : uzero Try.prog 90 = some [.int .u8 0] := by kernel_rfl
@[simp] theorem usz91 : usz Try.prog 91 = some 1 := by kernel_rfl
@[simp] theorem ubytes91 : ubytes Try.prog 91 = some 8 := by kernel_rfl
@[simp] theorem uagg91 : uagg Try.prog 91 = some false := by kernel_rfl
@[simp] theorem uslice91 : uslice Try.prog 91 = none := by kernel_rfl
@[simp] theorem uarr91 : uarr Try.prog 91 = none := by kernel_rfl
@[simp] theorem uint91 : uint Try.prog 91 = none := by kernel_rfl
@[simp] theorem ustr91 : ustr Try.prog 91 = false := by kernel_rfl
@[simp] theorem uiface91 : uiface Try.prog 91 = some false := by kernel_rfl
@[simp] theorem uzero91 : uzero Try.prog 91 = some [.nilf] := by kernel_rfl
@[simp] theorem usz92 : usz Try.prog 92 = some 1 := by kernel_rfl
@[simp] theorem ubytes92 : ubytes Try.prog 92 = some 8 := by kernel_rfl
@[simp] theorem uagg92 : uagg Try.prog 92 = some false := by kernel_rfl
@[simp] theorem uslice92 : uslice Try.prog 92 = none := by kernel_rfl
@[simp] theorem uarr92 : uarr Try.prog 92 = none := by kernel_rfl
@[simp] theorem uint92 : uint Try.prog 92 = none := by kernel_rfl
@[simp] theorem ustr92 : ustr Try.prog 92 = false := by kernel_rfl
@[simp] theorem uiface92 : uiface Try.prog 92 = some false := by kernel_rfl
@[simp] theorem uptr92 : uptr Try.prog 92 = true := by kernel_rfl
@[simp] theorem uzero92 : uzero Try.prog 92 = some [.nilp] := by kernel_rfl
@[simp] theorem usz93 : usz Try.prog 93 = some 1 := by kernel_rfl
@[simp] theorem ubytes93 : ubytes Try.prog 93 = some 4 := by kernel_rfl
@[simp] theorem uagg93 : uagg Try.prog 93 = some false := by kernel_rfl
@[simp] theorem uslice93 : uslice Try.prog 93 = none := by kernel_rfl
@[simp] theorem uarr93 : uarr Try.prog 93 = none := by kernel_rfl
@[simp] theorem uint93 : uint Try.prog 93 = some .i32 := by kernel_rfl
@[simp] theorem ustr93 : ustr Try.prog 93 = false := by kernel_rfl
@[simp] theorem uiface93 : uiface Try.prog 93 = some false := by kernel_rfl
@[simp] theorem uzero93 : uzero Try.prog 93 = some [.int .i32 0] := by kernel_rfl
@[simp] theorem usz94 : usz Try.prog 94 = some 1 := by kernel_rfl
@[simp] theorem ubytes94 : ubytes Try.prog 94 = some 4 := by kernel_rfl
@[simp] theorem uagg94 : uagg Try.prog 94 = some false := by kernel_rfl
@[simp] theorem uslice94 : uslice Try.prog 94 = none := by kernel_rfl
@[simp] theorem uarr94 : uarr Try.prog 94 = none := by kernel_rfl
@[simp] theorem uint94 : uint Try.prog 94 = some .i32 := by kernel_rfl
@[simp] theorem ustr94 : ustr Try.prog 94 = false := by kernel_rfl
@[simp] theorem uiface94 : uiface Try.prog 94 = some false := by kernel_rfl
@[simp] theorem uzero94 : uzero Try.prog 94 = some [.int .i32 0] := by kernel_rfl
@[simp] theorem usz95 : usz Try.prog 95 = some 11 := by kernel_rfl
@[simp] theorem ubytes95 : ubytes Try.prog 95 = some 48 := by kernel_rfl
@[simp] theorem uagg95 : uagg Try.prog 95 = some true := by kernel_rfl
@[simp] theorem uslice95 : uslice Try.prog 95 = none := by kernel_rfl
@[simp] theorem uarr95 : uarr Try.prog 95 = none := by kernel_rfl
@[simp] theorem uint95 : uint Try.prog 95 = none := by kernel_rfl
@[simp] theorem ustr95 : ustr Try.prog 95 = false := by kernel_rfl
@[simp] theorem uiface95 : uiface Try.prog 95 = some false := by kernel_rfl
@[simp] theorem ufield95_0 : ufield Try.prog 95 0 = some (12, 0) := by kernel_rfl
@[simp] theorem uplace95_0 : uplace Try.prog 95 0 = some (0, 1) := by kernel_rfl
@[simp] theorem ufield95_1 : ufield Try.prog 95 1 = some (12, 1) := by kernel_rfl
@[simp] theorem uplace95_1 : uplace Try.prog 95 1 = some (1, 1) := by kernel_rfl
@[simp] theorem ufield95_2 : ufield Try.prog 95 2 = some (43, 2) := by kernel_rfl
@[simp] theorem uplace95_2 : uplace Try.prog 95 2 = some (2, 1) := by kernel_rfl
@[simp] theorem ufield95_3 : ufield Try.prog 95 3 = some (89, 3) := by kernel_rfl
@[simp] theorem uplace95_3 : uplace Try.prog 95 3 = some (3, 1) := by kernel_rfl
@[simp] theorem ufield95_4 : ufield Try.prog 95 4 = some (5, 4) := by kernel_rfl
@[simp] theorem uplace95_4 : uplace Try.prog 95 4 = some (4, 1) := by kernel_rfl
@[simp] theorem ufield95_5 : ufield Try.prog 95 5 = some (5, 5) := by kernel_rfl
@[simp] theorem uplace95_5 : uplace Try.prog 95 5 = some (5, 1) := by kernel_rfl
@[simp] theorem ufield95_6 : ufield Try.prog 95 6 = some (90, 6) := by kernel_rfl
@[simp] theorem uplace95_6 : uplace Try.prog 95 6 = some (6, 1) := by kernel_rfl
@[simp] theorem ufield95_7 : ufield Try.prog 95 7 = some (91, 7) := by kernel_rfl
@[simp] theorem uplace95_7 : uplace Try.prog 95 7 = some (7, 1) := by kernel_rfl
@[simp] theorem ufield95_8 : ufield Try.prog 95 8 = some (92, 8) := by kernel_rfl
@[simp] theorem uplace95_8 : uplace Try.prog 95 8 = some (8, 1) := by kernel_rfl
@[simp] theorem ufield95_9 : ufield Try.prog 95 9 = some (93, 9) := by kernel_rfl
@[simp] theorem uplace95_9 : uplace Try.prog 95 9 = some (9, 1) := by kernel_rfl
@[simp] theorem ufield95_10 : ufield Try.prog 95 10 = some (94, 10) := by kernel_rfl
@[simp] theorem uplace95_10 : uplace Try.prog 95 10 = some (10, 1) := by kernel_rfl
@[simp] theorem uplaces95 : (uplaces Try.prog 95).isSome = true := by kernel_rfl
@[simp] theorem uzero95 : uzero Try.prog 95 = some [.int .u64 0, .int .u64 0, .int .u32 0, .int .u8 0, .int .u8 0, .int .u8 0, .int .u8 0, .nilf, .nilp, .int .i32 0, .int .i32 0] := by kernel_rfl
@[simp] theorem usz96 : usz Try.prog 96 = some 11 := by kernel_rfl
@[simp] theorem ubytes96 : ubytes Try.prog 96 = some 48 := by kernel_rfl
@[simp] theorem uagg96 : uagg Try.prog 96 = some true := by kernel_rfl
@[simp] theorem uslice96 : uslice Try.prog 96 = none := by kernel_rfl
@[simp] theorem uarr96 : uarr Try.prog 96 = none := by kernel_rfl
@[simp] theorem uint96 : uint Try.prog 96 = none := by kernel_rfl
@[simp] theorem ustr96 : ustr Try.prog 96 = false := by kernel_rfl
@[simp] theorem uiface96 : uiface Try.prog 96 = some false := by kernel_rfl
@[simp] theorem ufield96_0 : ufield Try.prog 96 0 = some (12, 0) := by kernel_rfl
@[simp] theorem uplace96_0 : uplace Try.prog 96 0 = some (0, 1) := by kernel_rfl
@[simp] theorem ufield96_1 : ufield Try.prog 96 1 = some (12, 1) := by kernel_rfl
@[simp] theorem uplace96_1 : uplace Try.prog 96 1 = some (1, 1) := by kernel_rfl
@[simp] theorem ufield96_2 : ufield Try.prog 96 2 = some (43, 2) := by kernel_rfl
@[simp] theorem uplace96_2 : uplace Try.prog 96 2 = some (2, 1) := by kernel_rfl
@[simp] theorem ufield96_3 : ufield Try.prog 96 3 = some (89, 3) := by kernel_rfl
@[simp] theorem uplace96_3 : uplace Try.prog 96 3 = some (3, 1) := by kernel_rfl
@[simp] theorem ufield96_4 : ufield Try.prog 96 4 = some (5, 4) := by kernel_rfl
@[simp] theorem uplace96_4 : uplace Try.prog 96 4 = some (4, 1) := by kernel_rfl
@[simp] theorem ufield96_5 : ufield Try.prog 96 5 = some (5, 5) := by kernel_rfl
@[simp] theorem uplace96_5 : uplace Try.prog 96 5 = some (5, 1) := by kernel_rfl
@[simp] theorem ufield96_6 : ufield Try.prog 96 6 = some (90, 6) := by kernel_rfl
@[simp] theorem uplace96_6 : uplace Try.prog 96 6 = some (6, 1) := by kernel_rfl
@[simp] theorem ufield96_7 : ufield Try.prog 96 7 = some (91, 7) := by kernel_rfl
@[simp] theorem uplace96_7 : uplace Try.prog 96 7 = some (7, 1) := by kernel_rfl
@[simp] theorem ufield96_8 : ufield Try.prog 96 8 = some (92, 8) := by kernel_rfl
@[simp] theorem uplace96_8 : uplace Try.prog 96 8 = some (8, 1) := by kernel_rfl
@[simp] theorem ufield96_9 : ufield Try.prog 96 9 = some (93, 9) := by kernel_rfl
@[simp] theorem uplace96_9 : uplace Try.prog 96 9 = some (9, 1) := by kernel_rfl
@[simp] theorem ufield96_10 : ufield Try.prog 96 10 = some (94, 10) := by kernel_rfl
@[simp] theorem uplace96_10 : uplace Try.prog 96 10 = some (10, 1) := by kernel_rfl
@[simp] theorem uplaces96 : (uplaces Try.prog 96).isSome = true := by kernel_rfl
@[simp] theorem uzero96 : uzero Try.prog 96 = some [.int .u64 0, .int .u64 0, .int .u32 0, .int .u8 0, .int .u8 0, .int .u8 0, .int .u8 0, .nilf, .nilp, .int .i32 0, .int .i32 0] := by kernel_rfl
@[simp] theorem usz97 : usz Try.prog 97 = some 1 := by kernel_rfl
@[simp] theorem ubytes97 : ubytes Try.prog 97 = some 8 := by kernel_rfl
@[simp] theorem uagg97 : uagg Try.prog 97 = some false := by kernel_rfl
@[simp] theorem uslice97 : uslice Try.prog 97 = none := by kernel_rfl
@[simp] theorem uarr97 : uarr Try.prog 97 = none := by kernel_rfl
@[simp] theorem uint97 : uint Try.prog 97 = none := by kernel_rfl
@[simp] theorem ustr97 : ustr Try.prog 97 = false := by kernel_rfl
@[simp] theorem uiface97 : uiface Try.prog 97 = some false := by kernel_rfl
@[simp] theorem uzero97 : uzero Try.prog 97 = some [.nilp] := by kernel_rfl

end Go.Proofs.Ytllehihgfbkgpaa
