/-
  VALUE SEMANTICS: what the program's type table says, type by type. Printed by gentab.py.
  Conditions: none.
-/
import Derived.Test.YtjlifjmjnhdcmaaGc
import Derived.Test.YtjlifjmjnhdcmaaRows
namespace Go.Proofs.Ytjlifjmjnhdcmaa
open Go.VS

@[simp] theorem usz0 : usz Try.prog 0 = some 1 := by kernel_rfl
@[simp] theorem ubytes0 : ubytes Try.prog 0 = some 0 := by kernel_rfl
@[simp] theorem uagg0 : uagg Try.prog 0 = some false := by kernel_rfl
@[simp] theorem uslice0 : uslice Try.prog 0 = none := by kernel_rfl
@[simp] theorem uarr0 : uarr Try.prog 0 = none := by kernel_rfl
@[simp] theorem uint0 : uint Try.prog 0 = none := by kernel_rfl
@[simp] theorem ustr0 : ustr Try.prog 0 = false := by kernel_rfl
@[simp] theorem uiface0 : uiface Try.prog 0 = some false := by kernel_rfl
@[simp] theorem usz1 : usz Try.prog 1 = some 1 := by kernel_rfl
@[simp] theorem ubytes1 : ubytes Try.prog 1 = some 8 := by kernel_rfl
@[simp] theorem uagg1 : uagg Try.prog 1 = some false := by kernel_rfl
@[simp] theorem uslice1 : uslice Try.prog 1 = none := by kernel_rfl
@[simp] theorem uarr1 : uarr Try.prog 1 = none := by kernel_rfl
@[simp] theorem uint1 : uint Try.prog 1 = none := by kernel_rfl
@[simp] theorem ustr1 : ustr Try.prog 1 = false := by kernel_rfl
@[simp] theorem uiface1 : uiface Try.prog 1 = some false := by kernel_rfl
@[simp] theorem uzero1 : uzero Try.prog 1 = some [.nilf] := by kernel_rfl
@[simp] theorem usz2 : usz Try.prog 2 = some 1 := by kernel_rfl
@[simp] theorem ubytes2 : ubytes Try.prog 2 = some 8 := by kernel_rfl
@[simp] theorem uagg2 : uagg Try.prog 2 = some false := by kernel_rfl
@[simp] theorem uslice2 : uslice Try.prog 2 = none := by kernel_rfl
@[simp] theorem uarr2 : uarr Try.prog 2 = none := by kernel_rfl
@[simp] theorem uint2 : uint Try.prog 2 = some .i64 := by kernel_rfl
@[simp] theorem ustr2 : ustr Try.prog 2 = false := by kernel_rfl
@[simp] theorem uiface2 : uiface Try.prog 2 = some false := by kernel_rfl
@[simp] theorem uzero2 : uzero Try.prog 2 = some [.int .i64 0] := by kernel_rfl
@[simp] theorem usz3 : usz Try.prog 3 = some 1 := by kernel_rfl
@[simp] theorem ubytes3 : ubytes Try.prog 3 = some 8 := by kernel_rfl
@[simp] theorem uagg3 : uagg Try.prog 3 = some false := by kernel_rfl
@[simp] theorem uslice3 : uslice Try.prog 3 = none := by kernel_rfl
@[simp] theorem uarr3 : uarr Try.prog 3 = none := by kernel_rfl
@[simp] theorem uint3 : uint Try.prog 3 = some .i64 := by kernel_rfl
@[simp] theorem ustr3 : ustr Try.prog 3 = false := by kernel_rfl
@[simp] theorem uiface3 : uiface Try.prog 3 = some false := by kernel_rfl
@[simp] theorem uzero3 : uzero Try.prog 3 = some [.int .i64 0] := by kernel_rfl
@[simp] theorem usz4 : usz Try.prog 4 = some 1 := by kernel_rfl
@[simp] theorem ubytes4 : ubytes Try.prog 4 = some 1 := by kernel_rfl
@[simp] theorem uagg4 : uagg Try.prog 4 = some false := by kernel_rfl
@[simp] theorem uslice4 : uslice Try.prog 4 = none := by kernel_rfl
@[simp] theorem uarr4 : uarr Try.prog 4 = none := by kernel_rfl
@[simp] theorem uint4 : uint Try.prog 4 = none := by kernel_rfl
@[simp] theorem ustr4 : ustr Try.prog 4 = false := by kernel_rfl
@[simp] theorem uiface4 : uiface Try.prog 4 = some false := by kernel_rfl
@[simp] theorem ubool4 : ubool Try.prog 4 = true := by kernel_rfl
@[simp] theorem uzero4 : uzero Try.prog 4 = some [.bool false] := by kernel_rfl
@[simp] theorem usz5 : usz Try.prog 5 = some 1 := by kernel_rfl
@[simp] theorem ubytes5 : ubytes Try.prog 5 = some 1 := by kernel_rfl
@[simp] theorem uagg5 : uagg Try.prog 5 = some false := by kernel_rfl
@[simp] theorem uslice5 : uslice Try.prog 5 = none := by kernel_rfl
@[simp] theorem uarr5 : uarr Try.prog 5 = none := by kernel_rfl
@[simp] theorem uint5 : uint Try.prog 5 = some .u8 := by kernel_rfl
@[simp] theorem ustr5 : ustr Try.prog 5 = false := by kernel_rfl
@[simp] theorem uiface5 : uiface Try.prog 5 = some false := by kernel_rfl
@[simp] theorem uzero5 : uzero Try.prog 5 = some [.int .u8 0] := by kernel_rfl
@[simp] theorem usz6 : usz Try.prog 6 = some 1 := by kernel_rfl
@[simp] theorem ubytes6 : ubytes Try.prog 6 = some 1 := by kernel_rfl
@[simp] theorem uagg6 : uagg Try.prog 6 = some false := by kernel_rfl
@[simp] theorem uslice6 : uslice Try.prog 6 = none := by kernel_rfl
@[simp] theorem uarr6 : uarr Try.prog 6 = none := by kernel_rfl
@[simp] theorem uint6 : uint Try.prog 6 = some .u8 := by kernel_rfl
@[simp] theorem ustr6 : ustr Try.prog 6 = false := by kernel_rfl
@[simp] theorem uiface6 : uiface Try.prog 6 = some false := by kernel_rfl
@[simp] theorem uzero6 : uzero Try.prog 6 = some [.int .u8 0] := by kernel_rfl
@[simp] theorem usz7 : usz Try.prog 7 = some 4 := by kernel_rfl
@[simp] theorem ubytes7 : ubytes Try.prog 7 = some 24 := by kernel_rfl
@[simp] theorem uagg7 : uagg Try.prog 7 = some true := by kernel_rfl
@[simp] theorem uslice7 : uslice Try.prog 7 = none := by kernel_rfl
@[simp] theorem uarr7 : uarr Try.prog 7 = none := by kernel_rfl
@[simp] theorem uint7 : uint Try.prog 7 = none := by kernel_rfl
@[simp] theorem ustr7 : ustr Try.prog 7 = false := by kernel_rfl
@[simp] theorem uiface7 : uiface Try.prog 7 = some false := by kernel_rfl
@[simp] theorem ufield7_0 : ufield Try.prog 7 0 = some (2, 0) := by kernel_rfl
@[simp] theorem uplace7_0 : uplace Try.prog 7 0 = some (0, 1) := by kernel_rfl
@[simp] theorem ufield7_1 : ufield Try.prog 7 1 = some (3, 1) := by kernel_rfl
@[simp] theorem uplace7_1 : uplace Try.prog 7 1 = some (1, 1) := by kernel_rfl
@[simp] theorem ufield7_2 : ufield Try.prog 7 2 = some (4, 2) := by kernel_rfl
@[simp] theorem uplace7_2 : uplace Try.prog 7 2 = some (2, 1) := by kernel_rfl
@[simp] theorem ufield7_3 : ufield Try.prog 7 3 = some (6, 3) := by kernel_rfl
@[simp] theorem uplace7_3 : uplace Try.prog 7 3 = some (3, 1) := by kernel_rfl
@[simp] theorem uplaces7 : (uplaces Try.prog 7).isSome = true := by kernel_rfl
@[simp] theorem uzero7 : uzero Try.prog 7 = some [.int .i64 0, .int .i64 0, .bool false, .int .u8 0] := by kernel_rfl
@[simp] theorem usz8 : usz Try.prog 8 = some 4 := by kernel_rfl
@[simp] theorem ubytes8 : ubytes Try.prog 8 = some 24 := by kernel_rfl
@[simp] theorem uagg8 : uagg Try.prog 8 = some true := by kernel_rfl
@[simp] theorem uslice8 : uslice Try.prog 8 = none := by kernel_rfl
@[simp] theorem uarr8 : uarr Try.prog 8 = none := by kernel_rfl
@[simp] theorem uint8 : uint Try.prog 8 = none := by kernel_rfl
@[simp] theorem ustr8 : ustr Try.prog 8 = false := by kernel_rfl
@[simp] theorem uiface8 : uiface Try.prog 8 = some false := by kernel_rfl
@[simp] theorem ufield8_0 : ufield Try.prog 8 0 = some (2, 0) := by kernel_rfl
@[simp] theorem uplace8_0 : uplace Try.prog 8 0 = some (0, 1) := by kernel_rfl
@[simp] theorem ufield8_1 : ufield Try.prog 8 1 = some (3, 1) := by kernel_rfl
@[simp] theorem uplace8_1 : uplace Try.prog 8 1 = some (1, 1) := by kernel_rfl
@[simp] theorem ufield8_2 : ufield Try.prog 8 2 = some (4, 2) := by kernel_rfl
@[simp] theorem uplace8_2 : uplace Try.prog 8 2 = some (2, 1) := by kernel_rfl
@[simp] theorem ufield8_3 : ufield Try.prog 8 3 = some (6, 3) := by kernel_rfl
@[simp] theorem uplace8_3 : uplace Try.prog 8 3 = some (3, 1) := by kernel_rfl
@[simp] theorem uplaces8 : (uplaces Try.prog 8).isSome = true := by kernel_rfl
@[simp] theorem uzero8 : uzero Try.prog 8 = some [.int .i64 0, .int .i64 0, .bool false, .int .u8 0] := by kernel_rfl
@[simp] theorem usz9 : usz Try.prog 9 = some 1 := by kernel_rfl
@[simp] theorem ubytes9 : ubytes Try.prog 9 = some 16 := by kernel_rfl
@[simp] theorem uagg9 : uagg Try.prog 9 = some false := by kernel_rfl
@[simp] theorem uslice9 : uslice Try.prog 9 = none := by kernel_rfl
@[simp] theorem uarr9 : uarr Try.prog 9 = none := by kernel_rfl
@[simp] theorem uint9 : uint Try.prog 9 = none := by kernel_rfl
@[simp] theorem ustr9 : ustr Try.prog 9 = true := by kernel_rfl
@[simp] theorem uiface9 : uiface Try.prog 9 = some false := by kernel_rfl
@[simp] theorem uzero9 : uzero Try.prog 9 = some [.str []] := by kernel_rfl
@[simp] theorem usz10 : usz Try.prog 10 = some 1 := by kernel_rfl
@[simp] theorem ubytes10 : ubytes Try.prog 10 = some 16 := by kernel_rfl
@[simp] theorem uagg10 : uagg Try.prog 10 = some false := by kernel_rfl
@[simp] theorem uslice10 : uslice Try.prog 10 = none := by kernel_rfl
@[simp] theorem uarr10 : uarr Try.prog 10 = none := by kernel_rfl
@[simp] theorem uint10 : uint Try.prog 10 = none := by kernel_rfl
@[simp] theorem ustr10 : ustr Try.prog 10 = true := by kernel_rfl
@[simp] theorem uiface10 : uiface Try.prog 10 = some false := by kernel_rfl
@[simp] theorem uzero10 : uzero Try.prog 10 = some [.str []] := by kernel_rfl
@[simp] theorem usz11 : usz Try.prog 11 = some 1 := by kernel_rfl
@[simp] theorem ubytes11 : ubytes Try.prog 11 = some 16 := by kernel_rfl
@[simp] theorem uagg11 : uagg Try.prog 11 = some false := by kernel_rfl
@[simp] theorem uslice11 : uslice Try.prog 11 = none := by kernel_rfl
@[simp] theorem uarr11 : uarr Try.prog 11 = none := by kernel_rfl
@[simp] theorem uint11 : uint Try.prog 11 = none := by kernel_rfl
@[simp] theorem ustr11 : ustr Try.prog 11 = true := by kernel_rfl
@[simp] theorem uiface11 : uiface Try.prog 11 = some false := by kernel_rfl
@[simp] theorem uzero11 : uzero Try.prog 11 = some [.str []] := by kernel_rfl
@[simp] theorem usz12 : usz Try.prog 12 = some 1 := by kernel_rfl
@[simp] theorem ubytes12 : ubytes Try.prog 12 = some 8 := by kernel_rfl
@[simp] theorem uagg12 : uagg Try.prog 12 = some false := by kernel_rfl
@[simp] theorem uslice12 : uslice Try.prog 12 = none := by kernel_rfl
@[simp] theorem uarr12 : uarr Try.prog 12 = none := by kernel_rfl
@[simp] theorem uint12 : uint Try.prog 12 = some .u64 := by kernel_rfl
@[simp] theorem ustr12 : ustr Try.prog 12 = false := by kernel_rfl
@[simp] theorem uiface12 : uiface Try.prog 12 = some false := by kernel_rfl
@[simp] theorem uzero12 : uzero Try.prog 12 = some [.int .u64 0] := by kernel_rfl
@[simp] theorem usz13 : usz Try.prog 13 = some 2 := by kernel_rfl
@[simp] theorem ubytes13 : ubytes Try.prog 13 = some 24 := by kernel_rfl
@[simp] theorem uagg13 : uagg Try.prog 13 = some true := by kernel_rfl
@[simp] theorem uslice13 : uslice Try.prog 13 = none := by kernel_rfl
@[simp] theorem uarr13 : uarr Try.prog 13 = none := by kernel_rfl
@[simp] theorem uint13 : uint Try.prog 13 = none := by kernel_rfl
@[simp] theorem ustr13 : ustr Try.prog 13 = false := by kernel_rfl
@[simp] theorem uiface13 : uiface Try.prog 13 = some false := by kernel_rfl
@[simp] theorem ufield13_0 : ufield Try.prog 13 0 = some (9, 0) := by kernel_rfl
@[simp] theorem uplace13_0 : uplace Try.prog 13 0 = some (0, 1) := by kernel_rfl
@[simp] theorem ufield13_1 : ufield Try.prog 13 1 = some (12, 1) := by kernel_rfl
@[simp] theorem uplace13_1 : uplace Try.prog 13 1 = some (1, 1) := by kernel_rfl
@[simp] theorem uplaces13 : (uplaces Try.prog 13).isSome = true := by kernel_rfl
@[simp] theorem uzero13 : uzero Try.prog 13 = some [.str [], .int .u64 0] := by kernel_rfl
@[simp] theorem usz14 : usz Try.prog 14 = some 2 := by kernel_rfl
@[simp] theorem ubytes14 : ubytes Try.prog 14 = some 24 := by kernel_rfl
@[simp] theorem uagg14 : uagg Try.prog 14 = some true := by kernel_rfl
@[simp] theorem uslice14 : uslice Try.prog 14 = none := by kernel_rfl
@[simp] theorem uarr14 : uarr Try.prog 14 = none := by kernel_rfl
@[simp] theorem uint14 : uint Try.prog 14 = none := by kernel_rfl
@[simp] theorem ustr14 : ustr Try.prog 14 = false := by kernel_rfl
@[simp] theorem uiface14 : uiface Try.prog 14 = some false := by kernel_rfl
@[simp] theorem ufield14_0 : ufield Try.prog 14 0 = some (9, 0) := by kernel_rfl
@[simp] theorem uplace14_0 : uplace Try.prog 14 0 = some (0, 1) := by kernel_rfl
@[simp] theorem ufield14_1 : ufield Try.prog 14 1 = some (12, 1) := by kernel_rfl
@[simp] theorem uplace14_1 : uplace Try.prog 14 1 = some (1, 1) := by kernel_rfl
@[simp] theorem uplaces14 : (uplaces Try.prog 14).isSome = true := by kernel_rfl
@[simp] theorem uzero14 : uzero Try.prog 14 = some [.str [], .int .u64 0] := by kernel_rfl
@[simp] theorem usz15 : usz Try.prog 15 = some 1 := by kernel_rfl
@[simp] theorem ubytes15 : ubytes Try.prog 15 = some 8 := by kernel_rfl
@[simp] theorem uagg15 : uagg Try.prog 15 = some false := by kernel_rfl
@[simp] theorem uslice15 : uslice Try.prog 15 = none := by kernel_rfl
@[simp] theorem uarr15 : uarr Try.prog 15 = none := by kernel_rfl
@[simp] theorem uint15 : uint Try.prog 15 = none := by kernel_rfl
@[simp] theorem ustr15 : ustr Try.prog 15 = false := by kernel_rfl
@[simp] theorem uiface15 : uiface Try.prog 15 = some false := by kernel_rfl
@[simp] theorem uptr15 : uptr Try.prog 15 = true := by kernel_rfl
@[simp] theorem uzero15 : uzero Try.prog 15 = some [.nilp] := by kernel_rfl
@[simp] theorem usz16 : usz Try.prog 16 = some 1 := by kernel_rfl
@[simp] theorem ubytes16 : ubytes Try.prog 16 = some 8 := by kernel_rfl
@[simp] theorem uagg16 : uagg Try.prog 16 = some false := by kernel_rfl
@[simp] theorem uslice16 : uslice Try.prog 16 = none := by kernel_rfl
@[simp] theorem uarr16 : uarr Try.prog 16 = none := by kernel_rfl
@[simp] theorem uint16 : uint Try.prog 16 = none := by kernel_rfl
@[simp] theorem ustr16 : ustr Try.prog 16 = false := by kernel_rfl
@[simp] theorem uiface16 : uiface Try.prog 16 = some false := by kernel_rfl
@[simp] theorem uptr16 : uptr Try.prog 16 = true := by kernel_rfl
@[simp] theorem uzero16 : uzero Try.prog 16 = some [.nilp] := by kernel_rfl
@[simp] theorem usz17 : usz Try.prog 17 = some 1 := by kernel_rfl
@[simp] theorem ubytes17 : ubytes Try.prog 17 = some 8 := by kernel_rfl
@[simp] theorem uagg17 : uagg Try.prog 17 = some false := by kernel_rfl
@[simp] theorem uslice17 : uslice Try.prog 17 = none := by kernel_rfl
@[simp] theorem uarr17 : uarr Try.prog 17 = none := by kernel_rfl
@[simp] theorem uint17 : uint Try.prog 17 = none := by kernel_rfl
@[simp] theorem ustr17 : ustr Try.prog 17 = false := by kernel_rfl
@[simp] theorem uiface17 : uiface Try.prog 17 = some false := by kernel_rfl
@[simp] theorem uptr17 : uptr Try.prog 17 = true := by kernel_rfl
@[simp] theorem uzero17 : uzero Try.prog 17 = some [.nilp] := by kernel_rfl
@[simp] theorem usz18 : usz Try.prog 18 = some 1 := by kernel_rfl
@[simp] theorem ubytes18 : ubytes Try.prog 18 = some 8 := by kernel_rfl
@[simp] theorem uagg18 : uagg Try.prog 18 = some true := by kernel_rfl
@[simp] theorem uslice18 : uslice Try.prog 18 = none := by kernel_rfl
@[simp] theorem uarr18 : uarr Try.prog 18 = none := by kernel_rfl
@[simp] theorem uint18 : uint Try.prog 18 = none := by kernel_rfl
@[simp] theorem ustr18 : ustr Try.prog 18 = false := by kernel_rfl
@[simp] theorem uiface18 : uiface Try.prog 18 = some false := by kernel_rfl
@[simp] theorem ufield18_0 : ufield Try.prog 18 0 = some (17, 0) := by kernel_rfl
@[simp] theorem uplace18_0 : uplace Try.prog 18 0 = some (0, 1) := by kernel_rfl
@[simp] theorem uplaces18 : (uplaces Try.prog 18).isSome = true := by kernel_rfl
@[simp] theorem uzero18 : uzero Try.prog 18 = some [.nilp] := by kernel_rfl
@[simp] theorem usz19 : usz Try.prog 19 = some 1 := by kernel_rfl
@[simp] theorem ubytes19 : ubytes Try.prog 19 = some 8 := by kernel_rfl
@[simp] theorem uagg19 : uagg Try.prog 19 = some true := by kernel_rfl
@[simp] theorem uslice19 : uslice Try.prog 19 = none := by kernel_rfl
@[simp] theorem uarr19 : uarr Try.prog 19 = none := by kernel_rfl
@[simp] theorem uint19 : uint Try.prog 19 = none := by kernel_rfl
@[simp] theorem ustr19 : ustr Try.prog 19 = false := by kernel_rfl
@[simp] theorem uiface19 : uiface Try.prog 19 = some false := by kernel_rfl
@[simp] theorem ufield19_0 : ufield Try.prog 19 0 = some (17, 0) := by kernel_rfl
@[simp] theorem uplace19_0 : uplace Try.prog 19 0 = some (0, 1) := by kernel_rfl
@[simp] theorem uplaces19 : (uplaces Try.prog 19).isSome = true := by kernel_rfl
@[simp] theorem uzero19 : uzero Try.prog 19 = some [.nilp] := by kernel_rfl
@[simp] theorem usz20 : usz Try.prog 20 = some 1 := by kernel_rfl
@[simp] theorem ubytes20 : ubytes Try.prog 20 = some 16 := by kernel_rfl
@[simp] theorem uagg20 : uagg Try.prog 20 = some false := by kernel_rfl
@[simp] theorem uslice20 : uslice Try.prog 20 = none := by kernel_rfl
@[simp] theorem uarr20 : uarr Try.prog 20 = none := by kernel_rfl
@[simp] theorem uint20 : uint Try.prog 20 = none := by kernel_rfl
@[simp] theorem ustr20 : ustr Try.prog 20 = false := by kernel_rfl
@[simp] theorem uiface20 : uiface Try.prog 20 = some true := by kernel_rfl
@[simp] theorem uzero20 : uzero Try.prog 20 = some [.niface] := by kernel_rfl
@[simp] theorem usz21 : usz Try.prog 21 = some 1 := by kernel_rfl
@[simp] theorem ubytes21 : ubytes Try.prog 21 = some 4 := by kernel_rfl
@[simp] theorem uagg21 : uagg Try.prog 21 = some false := by kernel_rfl
@[simp] theorem uslice21 : uslice Try.prog 21 = none := by kernel_rfl
@[simp] theorem uarr21 : uarr Try.prog 21 = none := by kernel_rfl
@[simp] theorem uint21 : uint Try.prog 21 = some .i32 := by kernel_rfl
@[simp] theorem ustr21 : ustr Try.prog 21 = false := by kernel_rfl
@[simp] theorem uiface21 : uiface Try.prog 21 = some false := by kernel_rfl
@[simp] theorem uzero21 : uzero Try.prog 21 = some [.int .i32 0] := by kernel_rfl
@[simp] theorem usz22 : usz Try.prog 22 = some 1 := by kernel_rfl
@[simp] theorem ubytes22 : ubytes Try.prog 22 = some 24 := by kernel_rfl
@[simp] theorem uagg22 : uagg Try.prog 22 = some false := by kernel_rfl
@[simp] theorem uslice22 : uslice Try.prog 22 = some 3 := by kernel_rfl
@[simp] theorem uarr22 : uarr Try.prog 22 = none := by kernel_rfl
@[simp] theorem uint22 : uint Try.prog 22 = none := by kernel_rfl
@[simp] theorem ustr22 : ustr Try.prog 22 = false := by kernel_rfl
@[simp] theorem uiface22 : uiface Try.prog 22 = some false := by kernel_rfl
@[simp] theorem uzero22 : uzero Try.prog 22 = some [.nils] := by kernel_rfl
@[simp] theorem usz23 : usz Try.prog 23 = some 1 := by kernel_rfl
@[simp] theorem ubytes23 : ubytes Try.prog 23 = some 8 := by kernel_rfl
@[simp] theorem uagg23 : uagg Try.prog 23 = some false := by kernel_rfl
@[simp] theorem uslice23 : uslice Try.prog 23 = none := by kernel_rfl
@[simp] theorem uarr23 : uarr Try.prog 23 = none := by kernel_rfl
@[simp] theorem uint23 : uint Try.prog 23 = none := by kernel_rfl
@[simp] theorem ustr23 : ustr Try.prog 23 = false := by kernel_rfl
@[simp] theorem uiface23 : uiface Try.prog 23 = some false := by kernel_rfl
@[simp] theorem uptr23 : uptr Try.prog 23 = true := by kernel_rfl
@[simp] theorem uzero23 : uzero Try.prog 23 = some [.nilp] := by kernel_rfl
@[simp] theorem usz24 : usz Try.prog 24 = some 1 := by kernel_rfl
@[simp] theorem ubytes24 : ubytes Try.prog 24 = some 8 := by kernel_rfl
@[simp] theorem uagg24 : uagg Try.prog 24 = some false := by kernel_rfl
@[simp] theorem uslice24 : uslice Try.prog 24 = none := by kernel_rfl
@[simp] theorem uarr24 : uarr Try.prog 24 = none := by kernel_rfl
@[simp] theorem uint24 : uint Try.prog 24 = none := by kernel_rfl
@[simp] theorem ustr24 : ustr Try.prog 24 = false := by kernel_rfl
@[simp] theorem uiface24 : uiface Try.prog 24 = some false := by kernel_rfl
@[simp] theorem uzero24 : uzero Try.prog 24 = some [.nilf] := by kernel_rfl
@[simp] theorem usz25 : usz Try.prog 25 = some 1 := by kernel_rfl
@[simp] theorem ubytes25 : ubytes Try.prog 25 = some 24 := by kernel_rfl
@[simp] theorem uagg25 : uagg Try.prog 25 = some false := by kernel_rfl
@[simp] theorem uslice25 : uslice Try.prog 25 = some 87 := by kernel_rfl
@[simp] theorem uarr25 : uarr Try.prog 25 = none := by kernel_rfl
@[simp] theorem uint25 : uint Try.prog 25 = none := by kernel_rfl
@[simp] theorem ustr25 : ustr Try.prog 25 = false := by kernel_rfl
@[simp] theorem uiface25 : uiface Try.prog 25 = some false := by kernel_rfl
@[simp] theorem uzero25 : uzero Try.prog 25 = some [.nils] := by kernel_rfl
@[simp] theorem usz26 : usz Try.prog 26 = some 1 := by kernel_rfl
@[simp] theorem ubytes26 : ubytes Try.prog 26 = some 24 := by kernel_rfl
@[simp] theorem uagg26 : uagg Try.prog 26 = some true := by kernel_rfl
@[simp] theorem uslice26 : uslice Try.prog 26 = none := by kernel_rfl
@[simp] theorem uarr26 : uarr Try.prog 26 = none := by kernel_rfl
@[simp] theorem uint26 : uint Try.prog 26 = none := by kernel_rfl
@[simp] theorem ustr26 : ustr Try.prog 26 = false := by kernel_rfl
@[simp] theorem uiface26 : uiface Try.prog 26 = some false := by kernel_rfl
@[simp] theorem ufield26_0 : ufield Try.prog 26 0 = some (25, 0) := by kernel_rfl
@[simp] theorem uplace26_0 : uplace Try.prog 26 0 = some (0, 1) := by kernel_rfl
@[simp] theorem uplaces26 : (uplaces Try.prog 26).isSome = true := by kernel_rfl
@[simp] theorem uzero26 : uzero Try.prog 26 = some [.nils] := by kernel_rfl
@[simp] theorem usz27 : usz Try.prog 27 = some 1 := by kernel_rfl
@[simp] theorem ubytes27 : ubytes Try.prog 27 = some 24 := by kernel_rfl
@[simp] theorem uagg27 : uagg Try.prog 27 = some true := by kernel_rfl
@[simp] theorem uslice27 : uslice Try.prog 27 = none := by kernel_rfl
@[simp] theorem uarr27 : uarr Try.prog 27 = none := by kernel_rfl
@[simp] theorem uint27 : uint Try.prog 27 = none := by kernel_rfl
@[simp] theorem ustr27 : ustr Try.prog 27 = false := by kernel_rfl
@[simp] theorem uiface27 : uiface Try.prog 27 = some false := by kernel_rfl
@[simp] theorem ufield27_0 : ufield Try.prog 27 0 = some (25, 0) := by kernel_rfl
@[simp] theorem uplace27_0 : uplace Try.prog 27 0 = some (0, 1) := by kernel_rfl
@[simp] theorem uplaces27 : (uplaces Try.prog 27).isSome = true := by kernel_rfl
@[simp] theorem uzero27 : uzero Try.prog 27 = some [.nils] := by kernel_rfl
@[simp] theorem usz28 : usz Try.prog 28 = some 3 := by kernel_rfl
@[simp] theorem ubytes28 : ubytes Try.prog 28 = some 40 := by kernel_rfl
@[simp] theorem uagg28 : uagg Try.prog 28 = some true := by kernel_rfl
@[simp] theorem uslice28 : uslice Try.prog 28 = none := by kernel_rfl
@[simp] theorem uarr28 : uarr Try.prog 28 = none := by kernel_rfl
@[simp] theorem uint28 : uint Try.prog 28 = none := by kernel_rfl
@[simp] theorem ustr28 : ustr Try.prog 28 = false := by kernel_rfl
@[simp] theorem uiface28 : uiface Try.prog 28 = some false := by kernel_rfl
@[simp] theorem ufield28_0 : ufield Try.prog 28 0 = some (3, 0) := by kernel_rfl
@[simp] theorem uplace28_0 : uplace Try.prog 28 0 = some (0, 1) := by kernel_rfl
@[simp] theorem ufield28_1 : ufield Try.prog 28 1 = some (9, 1) := by kernel_rfl
@[simp] theorem uplace28_1 : uplace Try.prog 28 1 = some (1, 1) := by kernel_rfl
@[simp] theorem ufield28_2 : ufield Try.prog 28 2 = some (9, 2) := by kernel_rfl
@[simp] theorem uplace28_2 : uplace Try.prog 28 2 = some (2, 1) := by kernel_rfl
@[simp] theorem uplaces28 : (uplaces Try.prog 28).isSome = true := by kernel_rfl
@[simp] theorem uzero28 : uzero Try.prog 28 = some [.int .i64 0, .str [], .str []] := by kernel_rfl
@[simp] theorem usz29 : usz Try.prog 29 = some 3 := by kernel_rfl
@[simp] theorem ubytes29 : ubytes Try.prog 29 = some 40 := by kernel_rfl
@[simp] theorem uagg29 : uagg Try.prog 29 = some true := by kernel_rfl
@[simp] theorem uslice29 : uslice Try.prog 29 = none := by kernel_rfl
@[simp] theorem uarr29 : uarr Try.prog 29 = none := by kernel_rfl
@[simp] theorem uint29 : uint Try.prog 29 = none := by kernel_rfl
@[simp] theorem ustr29 : ustr Try.prog 29 = false := by kernel_rfl
@[simp] theorem uiface29 : uiface Try.prog 29 = some false := by kernel_rfl
@[simp] theorem ufield29_0 : ufield Try.prog 29 0 = some (3, 0) := by kernel_rfl
@[simp] theorem uplace29_0 : uplace Try.prog 29 0 = some (0, 1) := by kernel_rfl
@[simp] theorem ufield29_1 : ufield Try.prog 29 1 = some (9, 1) := by kernel_rfl
@[simp] theorem uplace29_1 : uplace Try.prog 29 1 = some (1, 1) := by kernel_rfl
@[simp] theorem ufield29_2 : ufield Try.prog 29 2 = some (9, 2) := by kernel_rfl
@[simp] theorem uplace29_2 : uplace Try.prog 29 2 = some (2, 1) := by kernel_rfl
@[simp] theorem uplaces29 : (uplaces Try.prog 29).isSome = true := by kernel_rfl
@[simp] theorem uzero29 : uzero Try.prog 29 = some [.int .i64 0, .str [], .str []] := by kernel_rfl
@[simp] theorem usz30 : usz Try.prog 30 = some 4 := by kernel_rfl
@[simp] theorem ubytes30 : ubytes Try.prog 30 = some 64 := by kernel_rfl
@[simp] theorem uagg30 : uagg Try.prog 30 = some true := by kernel_rfl
@[simp] theorem uslice30 : uslice Try.prog 30 = none := by kernel_rfl
@[simp] theorem uarr30 : uarr Try.prog 30 = none := by kernel_rfl
@[simp] theorem uint30 : uint Try.prog 30 = none := by kernel_rfl
@[simp] theorem ustr30 : ustr Try.prog 30 = false := by kernel_rfl
@[simp] theorem uiface30 : uiface Try.prog 30 = some false := by kernel_rfl
@[simp] theorem ufield30_0 : ufield Try.prog 30 0 = some (27, 0) := by kernel_rfl
@[simp] theorem uplace30_0 : uplace Try.prog 30 0 = some (0, 1) := by kernel_rfl
@[simp] theorem ufield30_1 : ufield Try.prog 30 1 = some (29, 1) := by kernel_rfl
@[simp] theorem uplace30_1 : uplace Try.prog 30 1 = some (1, 3) := by kernel_rfl
@[simp] theorem uplaces30 : (uplaces Try.prog 30).isSome = true := by kernel_rfl
@[simp] theorem uzero30 : uzero Try.prog 30 = some [.nils, .int .i64 0, .str [], .str []] := by kernel_rfl
@[simp] theorem usz31 : usz Try.prog 31 = some 4 := by kernel_rfl
@[simp] theorem ubytes31 : ubytes Try.prog 31 = some 64 := by kernel_rfl
@[simp] theorem uagg31 : uagg Try.prog 31 = some true := by kernel_rfl
@[simp] theorem uslice31 : uslice Try.prog 31 = none := by kernel_rfl
@[simp] theorem uarr31 : uarr Try.prog 31 = none := by kernel_rfl
@[simp] theorem uint31 : uint Try.prog 31 = none := by kernel_rfl
@[simp] theorem ustr31 : ustr Try.prog 31 = false := by kernel_rfl
@[simp] theorem uiface31 : uiface Try.prog 31 = some false := by kernel_rfl
@[simp] theorem ufield31_0 : ufield Try.prog 31 0 = some (27, 0) := by kernel_rfl
@[simp] theorem uplace31_0 : uplace Try.prog 31 0 = some (0, 1) := by kernel_rfl
@[simp] theorem ufield31_1 : ufield Try.prog 31 1 = some (29, 1) := by kernel_rfl
@[simp] theorem uplace31_1 : uplace Try.prog 31 1 = some (1, 3) := by kernel_rfl
@[simp] theorem uplaces31 : (uplaces Try.prog 31).isSome = true := by kernel_rfl
@[simp] theorem uzero31 : uzero Try.prog 31 = some [.nils, .int .i64 0, .str [], .str []] := by kernel_rfl
@[simp] theorem usz32 : usz Try.prog 32 = some 1 := by kernel_rfl
@[simp] theorem ubytes32 : ubytes Try.prog 32 = some 8 := by kernel_rfl
@[simp] theorem uagg32 : uagg Try.prog 32 = some false := by kernel_rfl
@[simp] theorem uslice32 : uslice Try.prog 32 = none := by kernel_rfl
@[simp] theorem uarr32 : uarr Try.prog 32 = none := by kernel_rfl
@[simp] theorem uint32 : uint Try.prog 32 = none := by kernel_rfl
@[simp] theorem ustr32 : ustr Try.prog 32 = false := by kernel_rfl
@[simp] theorem uiface32 : uiface Try.prog 32 = some false := by kernel_rfl
@[simp] theorem uzero32 : uzero Try.prog 32 = some [.nilf] := by kernel_rfl
@[simp] theorem usz33 : usz Try.prog 33 = some 1 := by kernel_rfl
@[simp] theorem ubytes33 : ubytes Try.prog 33 = some 8 := by kernel_rfl
@[simp] theorem uagg33 : uagg Try.prog 33 = some false := by kernel_rfl
@[simp] theorem uslice33 : uslice Try.prog 33 = none := by kernel_rfl
@[simp] theorem uarr33 : uarr Try.prog 33 = none := by kernel_rfl
@[simp] theorem uint33 : uint Try.prog 33 = none := by kernel_rfl
@[simp] theorem ustr33 : ustr Try.prog 33 = false := by kernel_rfl
@[simp] theorem uiface33 : uiface Try.prog 33 = some false := by kernel_rfl
@[simp] theorem uzero33 : uzero Try.prog 33 = some [.nilf] := by kernel_rfl
@[simp] theorem usz34 : usz Try.prog 34 = some 1 := by kernel_rfl
@[simp] theorem ubytes34 : ubytes Try.prog 34 = some 24 := by kernel_rfl
@[simp] theorem uagg34 : uagg Try.prog 34 = some false := by kernel_rfl
@[simp] theorem uslice34 : uslice Try.prog 34 = some 9 := by kernel_rfl
@[simp] theorem uarr34 : uarr Try.prog 34 = none := by kernel_rfl
@[simp] theorem uint34 : uint Try.prog 34 = none := by kernel_rfl
@[simp] theorem ustr34 : ustr Try.prog 34 = false := by kernel_rfl
@[simp] theorem uiface34 : uiface Try.prog 34 = some false := by kernel_rfl
@[simp] theorem uzero34 : uzero Try.prog 34 = some [.nils] := by kernel_rfl
@[simp] theorem usz35 : usz Try.prog 35 = some 1 := by kernel_rfl
@[simp] theorem ubytes35 : ubytes Try.prog 35 = some 24 := by kernel_rfl
@[simp] theorem uagg35 : uagg Try.prog 35 = some false := by kernel_rfl
@[simp] theorem uslice35 : uslice Try.prog 35 = some 80 := by kernel_rfl
@[simp] theorem uarr35 : uarr Try.prog 35 = none := by kernel_rfl
@[simp] theorem uint35 : uint Try.prog 35 = none := by kernel_rfl
@[simp] theorem ustr35 : ustr Try.prog 35 = false := by kernel_rfl
@[simp] theorem uiface35 : uiface Try.prog 35 = some false := by kernel_rfl
@[simp] theorem uzero35 : uzero Try.prog 35 = some [.nils] := by kernel_rfl
@[simp] theorem usz36 : usz Try.prog 36 = some 1 := by kernel_rfl
@[simp] theorem ubytes36 : ubytes Try.prog 36 = some 24 := by kernel_rfl
@[simp] theorem uagg36 : uagg Try.prog 36 = some false := by kernel_rfl
@[simp] theorem uslice36 : uslice Try.prog 36 = some 31 := by kernel_rfl
@[simp] theorem uarr36 : uarr Try.prog 36 = none := by kernel_rfl
@[simp] theorem uint36 : uint Try.prog 36 = none := by kernel_rfl
@[simp] theorem ustr36 : ustr Try.prog 36 = false := by kernel_rfl
@[simp] theorem uiface36 : uiface Try.prog 36 = some false := by kernel_rfl
@[simp] theorem uzero36 : uzero Try.prog 36 = some [.nils] := by kernel_rfl
@[simp] theorem usz37 : usz Try.prog 37 = some 11 := by kernel_rfl
@[simp] theorem ubytes37 : ubytes Try.prog 37 = some 128 := by kernel_rfl
@[simp] theorem uagg37 : uagg Try.prog 37 = some true := by kernel_rfl
@[simp] theorem uslice37 : uslice Try.prog 37 = none := by kernel_rfl
@[simp] theorem uarr37 : uarr Try.prog 37 = none := by kernel_rfl
@[simp] theorem uint37 : uint Try.prog 37 = none := by kernel_rfl
@[simp] theorem ustr37 : ustr Try.prog 37 = false := by kernel_rfl
@[simp] theorem uiface37 : uiface Try.prog 37 = some false := by kernel_rfl
@[simp] theorem ufield37_0 : ufield Try.prog 37 0 = some (3, 0) := by kernel_rfl
@[simp] theorem uplace37_0 : uplace Try.prog 37 0 = some (0, 1) := by kernel_rfl
@[simp] theorem ufield37_1 : ufield Try.prog 37 1 = some (9, 1) := by kernel_rfl
@[simp] theorem uplace37_1 : uplace Try.prog 37 1 = some (1, 1) := by kernel_rfl
@[simp] theorem ufield37_2 : ufield Try.prog 37 2 = some (3, 2) := by kernel_rfl
@[simp] theorem uplace37_2 : uplace Try.prog 37 2 = some (2, 1) := by kernel_rfl
@[simp] theorem ufield37_3 : ufield Try.prog 37 3 = some (34, 3) := by kernel_rfl
@[simp] theorem uplace37_3 : uplace Try.prog 37 3 = some (3, 1) := by kernel_rfl
@[simp] theorem ufield37_4 : ufield Try.prog 37 4 = some (4, 4) := by kernel_rfl
@[simp] theorem uplace37_4 : uplace Try.prog 37 4 = some (4, 1) := by kernel_rfl
@[simp] theorem ufield37_5 : ufield Try.prog 37 5 = some (4, 5) := by kernel_rfl
@[simp] theorem uplace37_5 : uplace Try.prog 37 5 = some (5, 1) := by kernel_rfl
@[simp] theorem ufield37_6 : ufield Try.prog 37 6 = some (4, 6) := by kernel_rfl
@[simp] theorem uplace37_6 : uplace Try.prog 37 6 = some (6, 1) := by kernel_rfl
@[simp] theorem ufield37_7 : ufield Try.prog 37 7 = some (35, 7) := by kernel_rfl
@[simp] theorem uplace37_7 : uplace Try.prog 37 7 = some (7, 1) := by kernel_rfl
@[simp] theorem ufield37_8 : ufield Try.prog 37 8 = some (3, 8) := by kernel_rfl
@[simp] theorem uplace37_8 : uplace Try.prog 37 8 = some (8, 1) := by kernel_rfl
@[simp] theorem ufield37_9 : ufield Try.prog 37 9 = some (4, 9) := by kernel_rfl
@[simp] theorem uplace37_9 : uplace Try.prog 37 9 = some (9, 1) := by kernel_rfl
@[simp] theorem ufield37_10 : ufield Try.prog 37 10 = some (36, 10) := by kernel_rfl
@[simp] theorem uplace37_10 : uplace Try.prog 37 10 = some (10, 1) := by kernel_rfl
@[simp] theorem uplaces37 : (uplaces Try.prog 37).isSome = true := by kernel_rfl
@[simp] theorem uzero37 : uzero Try.prog 37 = some [.int .i64 0, .str [], .int .i64 0, .nils, .bool false, .bool false, .bool false, .nils, .int .i64 0, .bool false, .nils] := by kernel_rfl
@[simp] theorem usz38 : usz Try.prog 38 = some 11 := by kernel_rfl
@[simp] theorem ubytes38 : ubytes Try.prog 38 = some 128 := by kernel_rfl
@[simp] theorem uagg38 : uagg Try.prog 38 = some true := by kernel_rfl
@[simp] theorem uslice38 : uslice Try.prog 38 = none := by kernel_rfl
@[simp] theorem uarr38 : uarr Try.prog 38 = none := by kernel_rfl
@[simp] theorem uint38 : uint Try.prog 38 = none := by kernel_rfl
@[simp] theorem ustr38 : ustr Try.prog 38 = false := by kernel_rfl
@[simp] theorem uiface38 : uiface Try.prog 38 = some false := by kernel_rfl
@[simp] theorem ufield38_0 : ufield Try.prog 38 0 = some (3, 0) := by kernel_rfl
@[simp] theorem uplace38_0 : uplace Try.prog 38 0 = some (0, 1) := by kernel_rfl
@[simp] theorem ufield38_1 : ufield Try.prog 38 1 = some (9, 1) := by kernel_rfl
@[simp] theorem uplace38_1 : uplace Try.prog 38 1 = some (1, 1) := by kernel_rfl
@[simp] theorem ufield38_2 : ufield Try.prog 38 2 = some (3, 2) := by kernel_rfl
@[simp] theorem uplace38_2 : uplace Try.prog 38 2 = some (2, 1) := by kernel_rfl
@[simp] theorem ufield38_3 : ufield Try.prog 38 3 = some (34, 3) := by kernel_rfl
@[simp] theorem uplace38_3 : uplace Try.prog 38 3 = some (3, 1) := by kernel_rfl
@[simp] theorem ufield38_4 : ufield Try.prog 38 4 = some (4, 4) := by kernel_rfl
@[simp] theorem uplace38_4 : uplace Try.prog 38 4 = some (4, 1) := by kernel_rfl
@[simp] theorem ufield38_5 : ufield Try.prog 38 5 = some (4, 5) := by kernel_rfl
@[simp] theorem uplace38_5 : uplace Try.prog 38 5 = some (5, 1) := by kernel_rfl
@[simp] theorem ufield38_6 : ufield Try.prog 38 6 = some (4, 6) := by kernel_rfl
@[simp] theorem uplace38_6 : uplace Try.prog 38 6 = some (6, 1) := by kernel_rfl
@[simp] theorem ufield38_7 : ufield Try.prog 38 7 = some (35, 7) := by kernel_rfl
@[simp] theorem uplace38_7 : uplace Try.prog 38 7 = some (7, 1) := by kernel_rfl
@[simp] theorem ufield38_8 : ufield Try.prog 38 8 = some (3, 8) := by kernel_rfl
@[simp] theorem uplace38_8 : uplace Try.prog 38 8 = some (8, 1) := by kernel_rfl
@[simp] theorem ufield38_9 : ufield Try.prog 38 9 = some (4, 9) := by kernel_rfl
@[simp] theorem uplace38_9 : uplace Try.prog 38 9 = some (9, 1) := by kernel_rfl
@[simp] theorem ufield38_10 : ufield Try.prog 38 10 = some (36, 10) := by kernel_rfl
@[simp] theorem uplace38_10 : uplace Try.prog 38 10 = some (10, 1) := by kernel_rfl
@[simp] theorem uplaces38 : (uplaces Try.prog 38).isSome = true := by kernel_rfl
@[simp] theorem uzero38 : uzero Try.prog 38 = some [.int .i64 0, .str [], .int .i64 0, .nils, .bool false, .bool false, .bool false, .nils, .int .i64 0, .bool false, .nils] := by kernel_rfl
@[simp] theorem usz39 : usz Try.prog 39 = some 1 := by kernel_rfl
@[simp] theorem ubytes39 : ubytes Try.prog 39 = some 8 := by kernel_rfl
@[simp] theorem uagg39 : uagg Try.prog 39 = some false := by kernel_rfl
@[simp] theorem uslice39 : uslice Try.prog 39 = none := by kernel_rfl
@[simp] theorem uarr39 : uarr Try.prog 39 = none := by kernel_rfl
@[simp] theorem uint39 : uint Try.prog 39 = none := by kernel_rfl
@[simp] theorem ustr39 : ustr Try.prog 39 = false := by kernel_rfl
@[simp] theorem uiface39 : uiface Try.prog 39 = some false := by kernel_rfl
@[simp] theorem uzero39 : uzero Try.prog 39 = some [.nilf] := by kernel_rfl
@[simp] theorem usz40 : usz Try.prog 40 = some 1 := by kernel_rfl
@[simp] theorem ubytes40 : ubytes Try.prog 40 = some 8 := by kernel_rfl
@[simp] theorem uagg40 : uagg Try.prog 40 = some false := by kernel_rfl
@[simp] theorem uslice40 : uslice Try.prog 40 = none := by kernel_rfl
@[simp] theorem uarr40 : uarr Try.prog 40 = none := by kernel_rfl
@[simp] theorem uint40 : uint Try.prog 40 = none := by kernel_rfl
@[simp] theorem ustr40 : ustr Try.prog 40 = false := by kernel_rfl
@[simp] theorem uiface40 : uiface Try.prog 40 = some false := by kernel_rfl
@[simp] theorem uzero40 : uzero Try.prog 40 = some [.nilf] := by kernel_rfl
@[simp] theorem usz41 : usz Try.prog 41 = some 1 := by kernel_rfl
@[simp] theorem ubytes41 : ubytes Try.prog 41 = some 24 := by kernel_rfl
@[simp] theorem uagg41 : uagg Try.prog 41 = some false := by kernel_rfl
@[simp] theorem uslice41 : uslice Try.prog 41 = some 52 := by kernel_rfl
@[simp] theorem uarr41 : uarr Try.prog 41 = none := by kernel_rfl
@[simp] theorem uint41 : uint Try.prog 41 = none := by kernel_rfl
@[simp] theorem ustr41 : ustr Try.prog 41 = false := by kernel_rfl
@[simp] theorem uiface41 : uiface Try.prog 41 = some false := by kernel_rfl
@[simp] theorem uzero41 : uzero Try.prog 41 = some [.nils] := by kernel_rfl
@[simp] theorem usz42 : usz Try.prog 42 = some 1 := by kernel_rfl
@[simp] theorem ubytes42 : ubytes Try.prog 42 = some 24 := by kernel_rfl
@[simp] theorem uagg42 : uagg Try.prog 42 = some true := by kernel_rfl
@[simp] theorem uslice42 : uslice Try.prog 42 = none := by kernel_rfl
@[simp] theorem uarr42 : uarr Try.prog 42 = none := by kernel_rfl
@[simp] theorem uint42 : uint Try.prog 42 = none := by kernel_rfl
@[simp] theorem ustr42 : ustr Try.prog 42 = false := by kernel_rfl
@[simp] theorem uiface42 : uiface Try.prog 42 = some false := by kernel_rfl
@[simp] theorem ufield42_0 : ufield Try.prog 42 0 = some (41, 0) := by kernel_rfl
@[simp] theorem uplace42_0 : uplace Try.prog 42 0 = some (0, 1) := by kernel_rfl
@[simp] theorem uplaces42 : (uplaces Try.prog 42).isSome = true := by kernel_rfl
@[simp] theorem uzero42 : uzero Try.prog 42 = some [.nils] := by kernel_rfl
@[simp] theorem usz43 : usz Try.prog 43 = some 1 := by kernel_rfl
@[simp] theorem ubytes43 : ubytes Try.prog 43 = some 24 := by kernel_rfl
@[simp] theorem uagg43 : uagg Try.prog 43 = some true := by kernel_rfl
@[simp] theorem uslice43 : uslice Try.prog 43 = none := by kernel_rfl
@[simp] theorem uarr43 : uarr Try.prog 43 = none := by kernel_rfl
@[simp] theorem uint43 : uint Try.prog 43 = none := by kernel_rfl
@[simp] theorem ustr43 : ustr Try.prog 43 = false := by kernel_rfl
@[simp] theorem uiface43 : uiface Try.prog 43 = some false := by kernel_rfl
@[simp] theorem ufield43_0 : ufield Try.prog 43 0 = some (41, 0) := by kernel_rfl
@[simp] theorem uplace43_0 : uplace Try.prog 43 0 = some (0, 1) := by kernel_rfl
@[simp] theorem uplaces43 : (uplaces Try.prog 43).isSome = true := by kernel_rfl
@[simp] theorem uzero43 : uzero Try.prog 43 = some [.nils] := by kernel_rfl
@[simp] theorem usz44 : usz Try.prog 44 = some 10 := by kernel_rfl
@[simp] theorem ubytes44 : ubytes Try.prog 44 = some 128 := by kernel_rfl
@[simp] theorem uagg44 : uagg Try.prog 44 = some true := by kernel_rfl
@[simp] theorem uslice44 : uslice Try.prog 44 = none := by kernel_rfl
@[simp] theorem uarr44 : uarr Try.prog 44 = none := by kernel_rfl
@[simp] theorem uint44 : uint Try.prog 44 = none := by kernel_rfl
@[simp] theorem ustr44 : ustr Try.prog 44 = false := by kernel_rfl
@[simp] theorem uiface44 : uiface Try.prog 44 = some false := by kernel_rfl
@[simp] theorem ufield44_0 : ufield Try.prog 44 0 = some (27, 0) := by kernel_rfl
@[simp] theorem uplace44_0 : uplace Try.prog 44 0 = some (0, 1) := by kernel_rfl
@[simp] theorem ufield44_1 : ufield Try.prog 44 1 = some (29, 1) := by kernel_rfl
@[simp] theorem uplace44_1 : uplace Try.prog 44 1 = some (1, 3) := by kernel_rfl
@[simp] theorem ufield44_2 : ufield Try.prog 44 2 = some (4, 4) := by kernel_rfl
@[simp] theorem uplace44_2 : uplace Try.prog 44 2 = some (4, 1) := by kernel_rfl
@[simp] theorem ufield44_3 : ufield Try.prog 44 3 = some (3, 5) := by kernel_rfl
@[simp] theorem uplace44_3 : uplace Try.prog 44 3 = some (5, 1) := by kernel_rfl
@[simp] theorem ufield44_4 : ufield Try.prog 44 4 = some (3, 6) := by kernel_rfl
@[simp] theorem uplace44_4 : uplace Try.prog 44 4 = some (6, 1) := by kernel_rfl
@[simp] theorem ufield44_5 : ufield Try.prog 44 5 = some (3, 7) := by kernel_rfl
@[simp] theorem uplace44_5 : uplace Try.prog 44 5 = some (7, 1) := by kernel_rfl
@[simp] theorem ufield44_6 : ufield Try.prog 44 6 = some (3, 8) := by kernel_rfl
@[simp] theorem uplace44_6 : uplace Try.prog 44 6 = some (8, 1) := by kernel_rfl
@[simp] theorem ufield44_7 : ufield Try.prog 44 7 = some (43, 9) := by kernel_rfl
@[simp] theorem uplace44_7 : uplace Try.prog 44 7 = some (9, 1) := by kernel_rfl
@[simp] theorem uplaces44 : (uplaces Try.prog 44).isSome = true := by kernel_rfl
@[simp] theorem uzero44 : uzero Try.prog 44 = some [.nils, .int .i64 0, .str [], .str [], .bool false, .int .i64 0, .int .i64 0, .int .i64 0, .int .i64 0, .nils] := by kernel_rfl
@[simp] theorem usz45 : usz Try.prog 45 = some 10 := by kernel_rfl
@[simp] theorem ubytes45 : ubytes Try.prog 45 = some 128 := by kernel_rfl
@[simp] theorem uagg45 : uagg Try.prog 45 = some true := by kernel_rfl
@[simp] theorem uslice45 : uslice Try.prog 45 = none := by kernel_rfl
@[simp] theorem uarr45 : uarr Try.prog 45 = none := by kernel_rfl
@[simp] theorem uint45 : uint Try.prog 45 = none := by kernel_rfl
@[simp] theorem ustr45 : ustr Try.prog 45 = false := by kernel_rfl
@[simp] theorem uiface45 : uiface Try.prog 45 = some false := by kernel_rfl
@[simp] theorem ufield45_0 : ufield Try.prog 45 0 = some (27, 0) := by kernel_rfl
@[simp] theorem uplace45_0 : uplace Try.prog 45 0 = some (0, 1) := by kernel_rfl
@[simp] theorem ufield45_1 : ufield Try.prog 45 1 = some (29, 1) := by kernel_rfl
@[simp] theorem uplace45_1 : uplace Try.prog 45 1 = some (1, 3) := by kernel_rfl
@[simp] theorem ufield45_2 : ufield Try.prog 45 2 = some (4, 4) := by kernel_rfl
@[simp] theorem uplace45_2 : uplace Try.prog 45 2 = some (4, 1) := by kernel_rfl
@[simp] theorem ufield45_3 : ufield Try.prog 45 3 = some (3, 5) := by kernel_rfl
@[simp] theorem uplace45_3 : uplace Try.prog 45 3 = some (5, 1) := by kernel_rfl
@[simp] theorem ufield45_4 : ufield Try.prog 45 4 = some (3, 6) := by kernel_rfl
@[simp] theorem uplace45_4 : uplace Try.prog 45 4 = some (6, 1) := by kernel_rfl
@[simp] theorem ufield45_5 : ufield Try.prog 45 5 = some (3, 7) := by kernel_rfl
@[simp] theorem uplace45_5 : uplace Try.prog 45 5 = some (7, 1) := by kernel_rfl
@[simp] theorem ufield45_6 : ufield Try.prog 45 6 = some (3, 8) := by kernel_rfl
@[simp] theorem uplace45_6 : uplace Try.prog 45 6 = some (8, 1) := by kernel_rfl
@[simp] theorem ufield45_7 : ufield Try.prog 45 7 = some (43, 9) := by kernel_rfl
@[simp] theorem uplace45_7 : uplace Try.prog 45 7 = some (9, 1) := by kernel_rfl
@[simp] theorem uplaces45 : (uplaces Try.prog 45).isSome = true := by kernel_rfl
@[simp] theorem uzero45 : uzero Try.prog 45 = some [.nils, .int .i64 0, .str [], .str [], .bool false, .int .i64 0, .int .i64 0, .int .i64 0, .int .i64 0, .nils] := by kernel_rfl
@[simp] theorem usz46 : usz Try.prog 46 = some 1 := by kernel_rfl
@[simp] theorem ubytes46 : ubytes Try.prog 46 = some 8 := by kernel_rfl
@[simp] theorem uagg46 : uagg Try.prog 46 = some false := by kernel_rfl
@[simp] theorem uslice46 : uslice Try.prog 46 = none := by kernel_rfl
@[simp] theorem uarr46 : uarr Try.prog 46 = none := by kernel_rfl
@[simp] theorem uint46 : uint Try.prog 46 = none := by kernel_rfl
@[simp] theorem ustr46 : ustr Try.prog 46 = false := by kernel_rfl
@[simp] theorem uiface46 : uiface Try.prog 46 = some false := by kernel_rfl
@[simp] theorem uzero46 : uzero Try.prog 46 = some [.nilf] := by kernel_rfl
@[simp] theorem usz47 : usz Try.prog 47 = some 1 := by kernel_rfl
@[simp] theorem ubytes47 : ubytes Try.prog 47 = some 8 := by kernel_rfl
@[simp] theorem uagg47 : uagg Try.prog 47 = some false := by kernel_rfl
@[simp] theorem uslice47 : uslice Try.prog 47 = none := by kernel_rfl
@[simp] theorem uarr47 : uarr Try.prog 47 = none := by kernel_rfl
@[simp] theorem uint47 : uint Try.prog 47 = none := by kernel_rfl
@[simp] theorem ustr47 : ustr Try.prog 47 = false := by kernel_rfl
@[simp] theorem uiface47 : uiface Try.prog 47 = some false := by kernel_rfl
@[simp] theorem uzero47 : uzero Try.prog 47 = some [.nilf] := by kernel_rfl
@[simp] theorem usz48 : usz Try.prog 48 = some 1 := by kernel_rfl
@[simp] theorem ubytes48 : ubytes Try.prog 48 = some 8 := by kernel_rfl
@[simp] theorem uagg48 : uagg Try.prog 48 = some false := by kernel_rfl
@[simp] theorem uslice48 : uslice Try.prog 48 = none := by kernel_rfl
@[simp] theorem uarr48 : uarr Try.prog 48 = none := by kernel_rfl
@[simp] theorem uint48 : uint Try.prog 48 = none := by kernel_rfl
@[simp] theorem ustr48 : ustr Try.prog 48 = false := by kernel_rfl
@[simp] theorem uiface48 : uiface Try.prog 48 = some false := by kernel_rfl
@[simp] theorem uzero48 : uzero Try.prog 48 = some [.nilf] := by kernel_rfl
@[simp] theorem usz49 : usz Try.prog 49 = some 1 := by kernel_rfl
@[simp] theorem ubytes49 : ubytes Try.prog 49 = some 8 := by kernel_rfl
@[simp] theorem uagg49 : uagg Try.prog 49 = some false := by kernel_rfl
@[simp] theorem uslice49 : uslice Try.prog 49 = none := by kernel_rfl
@[simp] theorem uarr49 : uarr Try.prog 49 = none := by kernel_rfl
@[simp] theorem uint49 : uint Try.prog 49 = none := by kernel_rfl
@[simp] theorem ustr49 : ustr Try.prog 49 = false := by kernel_rfl
@[simp] theorem uiface49 : uiface Try.prog 49 = some false := by kernel_rfl
@[simp] theorem uzero49 : uzero Try.prog 49 = some [.nilf] := by kernel_rfl
@[simp] theorem usz50 : usz Try.prog 50 = some 1 := by kernel_rfl
@[simp] theorem ubytes50 : ubytes Try.prog 50 = some 24 := by kernel_rfl
@[simp] theorem uagg50 : uagg Try.prog 50 = some false := by kernel_rfl
@[simp] theorem uslice50 : uslice Try.prog 50 = some 97 := by kernel_rfl
@[simp] theorem uarr50 : uarr Try.prog 50 = none := by kernel_rfl
@[simp] theorem uint50 : uint Try.prog 50 = none := by kernel_rfl
@[simp] theorem ustr50 : ustr Try.prog 50 = false := by kernel_rfl
@[simp] theorem uiface50 : uiface Try.prog 50 = some false := by kernel_rfl
@[simp] theorem uzero50 : uzero Try.prog 50 = some [.nils] := by kernel_rfl
@[simp] theorem usz51 : usz Try.prog 51 = some 2 := by kernel_rfl
@[simp] theorem ubytes51 : ubytes Try.prog 51 = some 48 := by kernel_rfl
@[simp] theorem uagg51 : uagg Try.prog 51 = some true := by kernel_rfl
@[simp] theorem uslice51 : uslice Try.prog 51 = none := by kernel_rfl
@[simp] theorem uarr51 : uarr Try.prog 51 = none := by kernel_rfl
@[simp] theorem uint51 : uint Try.prog 51 = none := by kernel_rfl
@[simp] theorem ustr51 : ustr Try.prog 51 = false := by kernel_rfl
@[simp] theorem uiface51 : uiface Try.prog 51 = some false := by kernel_rfl
@[simp] theorem ufield51_0 : ufield Try.prog 51 0 = some (35, 0) := by kernel_rfl
@[simp] theorem uplace51_0 : uplace Try.prog 51 0 = some (0, 1) := by kernel_rfl
@[simp] theorem ufield51_1 : ufield Try.prog 51 1 = some (35, 1) := by kernel_rfl
@[simp] theorem uplace51_1 : uplace Try.prog 51 1 = some (1, 1) := by kernel_rfl
@[simp] theorem uplaces51 : (uplaces Try.prog 51).isSome = true := by kernel_rfl
@[simp] theorem uzero51 : uzero Try.prog 51 = some [.nils, .nils] := by kernel_rfl
@[simp] theorem usz52 : usz Try.prog 52 = some 2 := by kernel_rfl
@[simp] theorem ubytes52 : ubytes Try.prog 52 = some 48 := by kernel_rfl
@[simp] theorem uagg52 : uagg Try.prog 52 = some true := by kernel_rfl
@[simp] theorem uslice52 : uslice Try.prog 52 = none := by kernel_rfl
@[simp] theorem uarr52 : uarr Try.prog 52 = none := by kernel_rfl
@[simp] theorem uint52 : uint Try.prog 52 = none := by kernel_rfl
@[simp] theorem ustr52 : ustr Try.prog 52 = false := by kernel_rfl
@[simp] theorem uiface52 : uiface Try.prog 52 = some false := by kernel_rfl
@[simp] theorem ufield52_0 : ufield Try.prog 52 0 = some (35, 0) := by kernel_rfl
@[simp] theorem uplace52_0 : uplace Try.prog 52 0 = some (0, 1) := by kernel_rfl
@[simp] theorem ufield52_1 : ufield Try.prog 52 1 = some (35, 1) := by kernel_rfl
@[simp] theorem uplace52_1 : uplace Try.prog 52 1 = some (1, 1) := by kernel_rfl
@[simp] theorem uplaces52 : (uplaces Try.prog 52).isSome = true := by kernel_rfl
@[simp] theorem uzero52 : uzero Try.prog 52 = some [.nils, .nils] := by kernel_rfl
@[simp] theorem usz53 : usz Try.prog 53 = some 1 := by kernel_rfl
@[simp] theorem ubytes53 : ubytes Try.prog 53 = some 24 := by kernel_rfl
@[simp] theorem uagg53 : uagg Try.prog 53 = some false := by kernel_rfl
@[simp] theorem uslice53 : uslice Try.prog 53 = some 131 := by kernel_rfl
@[simp] theorem uarr53 : uarr Try.prog 53 = none := by kernel_rfl
@[simp] theorem uint53 : uint Try.prog 53 = none := by kernel_rfl
@[simp] theorem ustr53 : ustr Try.prog 53 = false := by kernel_rfl
@[simp] theorem uiface53 : uiface Try.prog 53 = some false := by kernel_rfl
@[simp] theorem uzero53 : uzero Try.prog 53 = some [.nils] := by kernel_rfl
@[simp] theorem usz54 : usz Try.prog 54 = some 1 := by kernel_rfl
@[simp] theorem ubytes54 : ubytes Try.prog 54 = some 24 := by kernel_rfl
@[simp] theorem uagg54 : uagg Try.prog 54 = some false := by kernel_rfl
@[simp] theorem uslice54 : uslice Try.prog 54 = some 112 := by kernel_rfl
@[simp] theorem uarr54 : uarr Try.prog 54 = none := by kernel_rfl
@[simp] theorem uint54 : uint Try.prog 54 = none := by kernel_rfl
@[simp] theorem ustr54 : ustr Try.prog 54 = false := by kernel_rfl
@[simp] theorem uiface54 : uiface Try.prog 54 = some false := by kernel_rfl
@[simp] theorem uzero54 : uzero Try.prog 54 = some [.nils] := by kernel_rfl
@[simp] theorem usz55 : usz Try.prog 55 = some 19 := by kernel_rfl
@[simp] theorem ubytes55 : ubytes Try.prog 55 = some 304 := by kernel_rfl
@[simp] theorem uagg55 : uagg Try.prog 55 = some true := by kernel_rfl
@[simp] theorem uslice55 : uslice Try.prog 55 = none := by kernel_rfl
@[simp] theorem uarr55 : uarr Try.prog 55 = none := by kernel_rfl
@[simp] theorem uint55 : uint Try.prog 55 = none := by kernel_rfl
@[simp] theorem ustr55 : ustr Try.prog 55 = false := by kernel_rfl
@[simp] theorem uiface55 : uiface Try.prog 55 = some false := by kernel_rfl
@[simp] theorem ufield55_0 : ufield Try.prog 55 0 = some (4, 0) := by kernel_rfl
@[simp] theorem uplace55_0 : uplace Try.prog 55 0 = some (0, 1) := by kernel_rfl
@[simp] theorem ufield55_1 : ufield Try.prog 55 1 = some (4, 1) := by kernel_rfl
@[simp] theorem uplace55_1 : uplace Try.prog 55 1 = some (1, 1) := by kernel_rfl
@[simp] theorem ufield55_2 : ufield Try.prog 55 2 = some (3, 2) := by kernel_rfl
@[simp] theorem uplace55_2 : uplace Try.prog 55 2 = some (2, 1) := by kernel_rfl
@[simp] theorem ufield55_3 : ufield Try.prog 55 3 = some (3, 3) := by kernel_rfl
@[simp] theorem uplace55_3 : uplace Try.prog 55 3 = some (3, 1) := by kernel_rfl
@[simp] theorem ufield55_4 : ufield Try.prog 55 4 = some (34, 4) := by kernel_rfl
@[simp] theorem uplace55_4 : uplace Try.prog 55 4 = some (4, 1) := by kernel_rfl
@[simp] theorem ufield55_5 : ufield Try.prog 55 5 = some (34, 5) := by kernel_rfl
@[simp] theorem uplace55_5 : uplace Try.prog 55 5 = some (5, 1) := by kernel_rfl
@[simp] theorem ufield55_6 : ufield Try.prog 55 6 = some (50, 6) := by kernel_rfl
@[simp] theorem uplace55_6 : uplace Try.prog 55 6 = some (6, 1) := by kernel_rfl
@[simp] theorem ufield55_7 : ufield Try.prog 55 7 = some (3, 7) := by kernel_rfl
@[simp] theorem uplace55_7 : uplace Try.prog 55 7 = some (7, 1) := by kernel_rfl
@[simp] theorem ufield55_8 : ufield Try.prog 55 8 = some (3, 8) := by kernel_rfl
@[simp] theorem uplace55_8 : uplace Try.prog 55 8 = some (8, 1) := by kernel_rfl
@[simp] theorem ufield55_9 : ufield Try.prog 55 9 = some (3, 9) := by kernel_rfl
@[simp] theorem uplace55_9 : uplace Try.prog 55 9 = some (9, 1) := by kernel_rfl
@[simp] theorem ufield55_10 : ufield Try.prog 55 10 = some (35, 10) := by kernel_rfl
@[simp] theorem uplace55_10 : uplace Try.prog 55 10 = some (10, 1) := by kernel_rfl
@[simp] theorem ufield55_11 : ufield Try.prog 55 11 = some (4, 11) := by kernel_rfl
@[simp] theorem uplace55_11 : uplace Try.prog 55 11 = some (11, 1) := by kernel_rfl
@[simp] theorem ufield55_12 : ufield Try.prog 55 12 = some (52, 12) := by kernel_rfl
@[simp] theorem uplace55_12 : uplace Try.prog 55 12 = some (12, 2) := by kernel_rfl
@[simp] theorem ufield55_13 : ufield Try.prog 55 13 = some (9, 14) := by kernel_rfl
@[simp] theorem uplace55_13 : uplace Try.prog 55 13 = some (14, 1) := by kernel_rfl
@[simp] theorem ufield55_14 : ufield Try.prog 55 14 = some (9, 15) := by kernel_rfl
@[simp] theorem uplace55_14 : uplace Try.prog 55 14 = some (15, 1) := by kernel_rfl
@[simp] theorem ufield55_15 : ufield Try.prog 55 15 = some (53, 16) := by kernel_rfl
@[simp] theorem uplace55_15 : uplace Try.prog 55 15 = some (16, 1) := by kernel_rfl
@[simp] theorem ufield55_16 : ufield Try.prog 55 16 = some (53, 17) := by kernel_rfl
@[simp] theorem uplace55_16 : uplace Try.prog 55 16 = some (17, 1) := by kernel_rfl
@[simp] theorem ufield55_17 : ufield Try.prog 55 17 = some (54, 18) := by kernel_rfl
@[simp] theorem uplace55_17 : uplace Try.prog 55 17 = some (18, 1) := by kernel_rfl
@[simp] theorem uplaces55 : (uplaces Try.prog 55).isSome = true := by kernel_rfl
@[simp] theorem uzero55 : uzero Try.prog 55 = some [.bool false, .bool false, .int .i64 0, .int .i64 0, .nils, .nils, .nils, .int .i64 0, .int .i64 0, .int .i64 0, .nils, .bool false, .nils, .nils, .str [], .str [], .nils, .nils, .nils] := by kernel_rfl
@[simp] theorem usz56 : usz Try.prog 56 = some 19 := by kernel_rfl
@[simp] theorem ubytes56 : ubytes Try.prog 56 = some 304 := by kernel_rfl
@[simp] theorem uagg56 : uagg Try.prog 56 = some true := by kernel_rfl
@[simp] theorem uslice56 : uslice Try.prog 56 = none := by kernel_rfl
@[simp] theorem uarr56 : uarr Try.prog 56 = none := by kernel_rfl
@[simp] theorem uint56 : uint Try.prog 56 = none := by kernel_rfl
@[simp] theorem ustr56 : ustr Try.prog 56 = false := by kernel_rfl
@[simp] theorem uiface56 : uiface Try.prog 56 = some false := by kernel_rfl
@[simp] theorem ufield56_0 : ufield Try.prog 56 0 = some (4, 0) := by kernel_rfl
@[simp] theorem uplace56_0 : uplace Try.prog 56 0 = some (0, 1) := by kernel_rfl
@[simp] theorem ufield56_1 : ufield Try.prog 56 1 = some (4, 1) := by kernel_rfl
@[simp] theorem uplace56_1 : uplace Try.prog 56 1 = some (1, 1) := by kernel_rfl
@[simp] theorem ufield56_2 : ufield Try.prog 56 2 = some (3, 2) := by kernel_rfl
@[simp] theorem uplace56_2 : uplace Try.prog 56 2 = some (2, 1) := by kernel_rfl
@[simp] theorem ufield56_3 : ufield Try.prog 56 3 = some (3, 3) := by kernel_rfl
@[simp] theorem uplace56_3 : uplace Try.prog 56 3 = some (3, 1) := by kernel_rfl
@[simp] theorem ufield56_4 : ufield Try.prog 56 4 = some (34, 4) := by kernel_rfl
@[simp] theorem uplace56_4 : uplace Try.prog 56 4 = some (4, 1) := by kernel_rfl
@[simp] theorem ufield56_5 : ufield Try.prog 56 5 = some (34, 5) := by kernel_rfl
@[simp] theorem uplace56_5 : uplace Try.prog 56 5 = some (5, 1) := by kernel_rfl
@[simp] theorem ufield56_6 : ufield Try.prog 56 6 = some (50, 6) := by kernel_rfl
@[simp] theorem uplace56_6 : uplace Try.prog 56 6 = some (6, 1) := by kernel_rfl
@[simp] theorem ufield56_7 : ufield Try.prog 56 7 = some (3, 7) := by kernel_rfl
@[simp] theorem uplace56_7 : uplace Try.prog 56 7 = some (7, 1) := by kernel_rfl
@[simp] theorem ufield56_8 : ufield Try.prog 56 8 = some (3, 8) := by kernel_rfl
@[simp] theorem uplace56_8 : uplace Try.prog 56 8 = some (8, 1) := by kernel_rfl
@[simp] theorem ufield56_9 : ufield Try.prog 56 9 = some (3, 9) := by kernel_rfl
@[simp] theorem uplace56_9 : uplace Try.prog 56 9 = some (9, 1) := by kernel_rfl
@[simp] theorem ufield56_10 : ufield Try.prog 56 10 = some (35, 10) := by kernel_rfl
@[simp] theorem uplace56_10 : uplace Try.prog 56 10 = some (10, 1) := by kernel_rfl
@[simp] theorem ufield56_11 : ufield Try.prog 56 11 = some (4, 11) := by kernel_rfl
@[simp] theorem uplace56_11 : uplace Try.prog 56 11 = some (11, 1) := by kernel_rfl
@[simp] theorem ufield56_12 : ufield Try.prog 56 12 = some (52, 12) := by kernel_rfl
@[simp] theorem uplace56_12 : uplace Try.prog 56 12 = some (12, 2) := by kernel_rfl
@[simp] theorem ufield56_13 : ufield Try.prog 56 13 = some (9, 14) := by kernel_rfl
@[simp] theorem uplace56_13 : uplace Try.prog 56 13 = some (14, 1) := by kernel_rfl
@[simp] theorem ufield56_14 : ufield Try.prog 56 14 = some (9, 15) := by kernel_rfl
@[simp] theorem uplace56_14 : uplace Try.prog 56 14 = some (15, 1) := by kernel_rfl
@[simp] theorem ufield56_15 : ufield Try.prog 56 15 = some (53, 16) := by kernel_rfl
@[simp] theorem uplace56_15 : uplace Try.prog 56 15 = some (16, 1) := by kernel_rfl
@[simp] theorem ufield56_16 : ufield Try.prog 56 16 = some (53, 17) := by kernel_rfl
@[simp] theorem uplace56_16 : uplace Try.prog 56 16 = some (17, 1) := by kernel_rfl
@[simp] theorem ufield56_17 : ufield Try.prog 56 17 = some (54, 18) := by kernel_rfl
@[simp] theorem uplace56_17 : uplace Try.prog 56 17 = some (18, 1) := by kernel_rfl
@[simp] theorem uplaces56 : (uplaces Try.prog 56).isSome = true := by kernel_rfl
@[simp] theorem uzero56 : uzero Try.prog 56 = some [.bool false, .bool false, .int .i64 0, .int .i64 0, .nils, .nils, .nils, .int .i64 0, .int .i64 0, .int .i64 0, .nils, .bool false, .nils, .nils, .str [], .str [], .nils, .nils, .nils] := by kernel_rfl
@[simp] theorem usz57 : usz Try.prog 57 = some 30 := by kernel_rfl
@[simp] theorem ubytes57 : ubytes Try.prog 57 = some 464 := by kernel_rfl
@[simp] theorem uagg57 : uagg Try.prog 57 = some true := by kernel_rfl
@[simp] theorem uslice57 : uslice Try.prog 57 = none := by kernel_rfl
@[simp] theorem uarr57 : uarr Try.prog 57 = none := by kernel_rfl
@[simp] theorem uint57 : uint Try.prog 57 = none := by kernel_rfl
@[simp] theorem ustr57 : ustr Try.prog 57 = false := by kernel_rfl
@[simp] theorem uiface57 : uiface Try.prog 57 = some false := by kernel_rfl
@[simp] theorem ufield57_0 : ufield Try.prog 57 0 = some (9, 0) := by kernel_rfl
@[simp] theorem uplace57_0 : uplace Try.prog 57 0 = some (0, 1) := by kernel_rfl
@[simp] theorem ufield57_1 : ufield Try.prog 57 1 = some (9, 1) := by kernel_rfl
@[simp] theorem uplace57_1 : uplace Try.prog 57 1 = some (1, 1) := by kernel_rfl
@[simp] theorem ufield57_2 : ufield Try.prog 57 2 = some (3, 2) := by kernel_rfl
@[simp] theorem uplace57_2 : uplace Try.prog 57 2 = some (2, 1) := by kernel_rfl
@[simp] theorem ufield57_3 : ufield Try.prog 57 3 = some (27, 3) := by kernel_rfl
@[simp] theorem uplace57_3 : uplace Try.prog 57 3 = some (3, 1) := by kernel_rfl
@[simp] theorem ufield57_4 : ufield Try.prog 57 4 = some (27, 4) := by kernel_rfl
@[simp] theorem uplace57_4 : uplace Try.prog 57 4 = some (4, 1) := by kernel_rfl
@[simp] theorem ufield57_5 : ufield Try.prog 57 5 = some (3, 5) := by kernel_rfl
@[simp] theorem uplace57_5 : uplace Try.prog 57 5 = some (5, 1) := by kernel_rfl
@[simp] theorem ufield57_6 : ufield Try.prog 57 6 = some (3, 6) := by kernel_rfl
@[simp] theorem uplace57_6 : uplace Try.prog 57 6 = some (6, 1) := by kernel_rfl
@[simp] theorem ufield57_7 : ufield Try.prog 57 7 = some (29, 7) := by kernel_rfl
@[simp] theorem uplace57_7 : uplace Try.prog 57 7 = some (7, 3) := by kernel_rfl
@[simp] theorem ufield57_8 : ufield Try.prog 57 8 = some (56, 10) := by kernel_rfl
@[simp] theorem uplace57_8 : uplace Try.prog 57 8 = some (10, 19) := by kernel_rfl
@[simp] theorem ufield57_9 : ufield Try.prog 57 9 = some (9, 29) := by kernel_rfl
@[simp] theorem uplace57_9 : uplace Try.prog 57 9 = some (29, 1) := by kernel_rfl
@[simp] theorem uplaces57 : (uplaces Try.prog 57).isSome = true := by kernel_rfl
@[simp] theorem uzero57 : uzero Try.prog 57 = some [.str [], .str [], .int .i64 0, .nils, .nils, .int .i64 0, .int .i64 0, .int .i64 0, .str [], .str [], .bool false, .bool false, .int .i64 0, .int .i64 0, .nils, .nils, .nils, .int .i64 0, .int .i64 0, .int .i64 0, .nils, .bool false, .nils, .nils, .str [], .str [], .nils, .nils, .nils, .str []] := by kernel_rfl
@[simp] theorem usz58 : usz Try.prog 58 = some 30 := by kernel_rfl
@[simp] theorem ubytes58 : ubytes Try.prog 58 = some 464 := by kernel_rfl
@[simp] theorem uagg58 : uagg Try.prog 58 = some true := by kernel_rfl
@[simp] theorem uslice58 : uslice Try.prog 58 = none := by kernel_rfl
@[simp] theorem uarr58 : uarr Try.prog 58 = none := by kernel_rfl
@[simp] theorem uint58 : uint Try.prog 58 = none := by kernel_rfl
@[simp] theorem ustr58 : ustr Try.prog 58 = false := by kernel_rfl
@[simp] theorem uiface58 : uiface Try.prog 58 = some false := by kernel_rfl
@[simp] theorem ufield58_0 : ufield Try.prog 58 0 = some (9, 0) := by kernel_rfl
@[simp] theorem uplace58_0 : uplace Try.prog 58 0 = some (0, 1) := by kernel_rfl
@[simp] theorem ufield58_1 : ufield Try.prog 58 1 = some (9, 1) := by kernel_rfl
@[simp] theorem uplace58_1 : uplace Try.prog 58 1 = some (1, 1) := by kernel_rfl
@[simp] theorem ufield58_2 : ufield Try.prog 58 2 = some (3, 2) := by kernel_rfl
@[simp] theorem uplace58_2 : uplace Try.prog 58 2 = some (2, 1) := by kernel_rfl
@[simp] theorem ufield58_3 : ufield Try.prog 58 3 = some (27, 3) := by kernel_rfl
@[simp] theorem uplace58_3 : uplace Try.prog 58 3 = some (3, 1) := by kernel_rfl
@[simp] theorem ufield58_4 : ufield Try.prog 58 4 = some (27, 4) := by kernel_rfl
@[simp] theorem uplace58_4 : uplace Try.prog 58 4 = some (4, 1) := by kernel_rfl
@[simp] theorem ufield58_5 : ufield Try.prog 58 5 = some (3, 5) := by kernel_rfl
@[simp] theorem uplace58_5 : uplace Try.prog 58 5 = some (5, 1) := by kernel_rfl
@[simp] theorem ufield58_6 : ufield Try.prog 58 6 = some (3, 6) := by kernel_rfl
@[simp] theorem uplace58_6 : uplace Try.prog 58 6 = some (6, 1) := by kernel_rfl
@[simp] theorem ufield58_7 : ufield Try.prog 58 7 = some (29, 7) := by kernel_rfl
@[simp] theorem uplace58_7 : uplace Try.prog 58 7 = some (7, 3) := by kernel_rfl
@[simp] theorem ufield58_8 : ufield Try.prog 58 8 = some (56, 10) := by kernel_rfl
@[simp] theorem uplace58_8 : uplace Try.prog 58 8 = some (10, 19) := by kernel_rfl
@[simp] theorem ufield58_9 : ufield Try.prog 58 9 = some (9, 29) := by kernel_rfl
@[simp] theorem uplace58_9 : uplace Try.prog 58 9 = some (29, 1) := by kernel_rfl
@[simp] theorem uplaces58 : (uplaces Try.prog 58).isSome = true := by kernel_rfl
@[simp] theorem uzero58 : uzero Try.prog 58 = some [.str [], .str [], .int .i64 0, .nils, .nils, .int .i64 0, .int .i64 0, .int .i64 0, .str [], .str [], .bool false, .bool false, .int .i64 0, .int .i64 0, .nils, .nils, .nils, .int .i64 0, .int .i64 0, .int .i64 0, .nils, .bool false, .nils, .nils, .str [], .str [], .nils, .nils, .nils, .str []] := by kernel_rfl
@[simp] theorem usz59 : usz Try.prog 59 = some 1 := by kernel_rfl
@[simp] theorem ubytes59 : ubytes Try.prog 59 = some 8 := by kernel_rfl
@[simp] theorem uagg59 : uagg Try.prog 59 = some false := by kernel_rfl
@[simp] theorem uslice59 : uslice Try.prog 59 = none := by kernel_rfl
@[simp] theorem uarr59 : uarr Try.prog 59 = none := by kernel_rfl
@[simp] theorem uint59 : uint Try.prog 59 = none := by kernel_rfl
@[simp] theorem ustr59 : ustr Try.prog 59 = false := by kernel_rfl
@[simp] theorem uiface59 : uiface Try.prog 59 = some false := by kernel_rfl
@[simp] theorem uzero59 : uzero Try.prog 59 = some [.nilf] := by kernel_rfl
@[simp] theorem usz60 : usz Try.prog 60 = some 1 := by kernel_rfl
@[simp] theorem ubytes60 : ubytes Try.prog 60 = some 8 := by kernel_rfl
@[simp] theorem uagg60 : uagg Try.prog 60 = some false := by kernel_rfl
@[simp] theorem uslice60 : uslice Try.prog 60 = none := by kernel_rfl
@[simp] theorem uarr60 : uarr Try.prog 60 = none := by kernel_rfl
@[simp] theorem uint60 : uint Try.prog 60 = none := by kernel_rfl
@[simp] theorem ustr60 : ustr Try.prog 60 = false := by kernel_rfl
@[simp] theorem uiface60 : uiface Try.prog 60 = some false := by kernel_rfl
@[simp] theorem uzero60 : uzero Try.prog 60 = some [.nilf] := by kernel_rfl
@[simp] theorem usz61 : usz Try.prog 61 = some 1 := by kernel_rfl
@[simp] theorem ubytes61 : ubytes Try.prog 61 = some 8 := by kernel_rfl
@[simp] theorem uagg61 : uagg Try.prog 61 = some false := by kernel_rfl
@[simp] theorem uslice61 : uslice Try.prog 61 = none := by kernel_rfl
@[simp] theorem uarr61 : uarr Try.prog 61 = none := by kernel_rfl
@[simp] theorem uint61 : uint Try.prog 61 = none := by kernel_rfl
@[simp] theorem ustr61 : ustr Try.prog 61 = false := by kernel_rfl
@[simp] theorem uiface61 : uiface Try.prog 61 = some false := by kernel_rfl
@[simp] theorem uzero61 : uzero Try.prog 61 = some [.nilf] := by kernel_rfl
@[simp] theorem usz62 : usz Try.prog 62 = some 1 := by kernel_rfl
@[simp] theorem ubytes62 : ubytes Try.prog 62 = some 8 := by kernel_rfl
@[simp] theorem uagg62 : uagg Try.prog 62 = some false := by kernel_rfl
@[simp] theorem uslice62 : uslice Try.prog 62 = none := by kernel_rfl
@[simp] theorem uarr62 : uarr Try.prog 62 = none := by kernel_rfl
@[simp] theorem uint62 : uint Try.prog 62 = none := by kernel_rfl
@[simp] theorem ustr62 : ustr Try.prog 62 = false := by kernel_rfl
@[simp] theorem uiface62 : uiface Try.prog 62 = some false := by kernel_rfl
@[simp] theorem uzero62 : uzero Try.prog 62 = some [.nilf] := by kernel_rfl
@[simp] theorem usz63 : usz Try.prog 63 = some 1 := by kernel_rfl
@[simp] theorem ubytes63 : ubytes Try.prog 63 = some 0 := by kernel_rfl
@[simp] theorem uagg63 : uagg Try.prog 63 = some false := by kernel_rfl
@[simp] theorem uslice63 : uslice Try.prog 63 = none := by kernel_rfl
@[simp] theorem uarr63 : uarr Try.prog 63 = none := by kernel_rfl
@[simp] theorem uint63 : uint Try.prog 63 = none := by kernel_rfl
@[simp] theorem ustr63 : ustr Try.prog 63 = false := by kernel_rfl
@[simp] theorem uiface63 : uiface Try.prog 63 = some false := by kernel_rfl
@[simp] theorem usz64 : usz Try.prog 64 = some 1 := by kernel_rfl
@[simp] theorem ubytes64 : ubytes Try.prog 64 = some 8 := by kernel_rfl
@[simp] theorem uagg64 : uagg Try.prog 64 = some false := by kernel_rfl
@[simp] theorem uslice64 : uslice Try.prog 64 = none := by kernel_rfl
@[simp] theorem uarr64 : uarr Try.prog 64 = none := by kernel_rfl
@[simp] theorem uint64 : uint Try.prog 64 = none := by kernel_rfl
@[simp] theorem ustr64 : ustr Try.prog 64 = false := by kernel_rfl
@[simp] theorem uiface64 : uiface Try.prog 64 = some false := by kernel_rfl
@[simp] theorem uzero64 : uzero Try.prog 64 = some [.nilf] := by kernel_rfl
@[simp] theorem usz65 : usz Try.prog 65 = some 1 := by kernel_rfl
@[simp] theorem ubytes65 : ubytes Try.prog 65 = some 8 := by kernel_rfl
@[simp] theorem uagg65 : uagg Try.prog 65 = some false := by kernel_rfl
@[simp] theorem uslice65 : uslice Try.prog 65 = none := by kernel_rfl
@[simp] theorem uarr65 : uarr Try.prog 65 = none := by kernel_rfl
@[simp] theorem uint65 : uint Try.prog 65 = none := by kernel_rfl
@[simp] theorem ustr65 : ustr Try.prog 65 = false := by kernel_rfl
@[simp] theorem uiface65 : uiface Try.prog 65 = some false := by kernel_rfl
@[simp] theorem uzero65 : uzero Try.prog 65 = some [.nilf] := by kernel_rfl
@[simp] theorem usz66 : usz Try.prog 66 = some 1 := by kernel_rfl
@[simp] theorem ubytes66 : ubytes Try.prog 66 = some 8 := by kernel_rfl
@[simp] theorem uagg66 : uagg Try.prog 66 = some false := by kernel_rfl
@[simp] theorem uslice66 : uslice Try.prog 66 = none := by kernel_rfl
@[simp] theorem uarr66 : uarr Try.prog 66 = none := by kernel_rfl
@[simp] theorem uint66 : uint Try.prog 66 = none := by kernel_rfl
@[simp] theorem ustr66 : ustr Try.prog 66 = false := by kernel_rfl
@[simp] theorem uiface66 : uiface Try.prog 66 = some false := by kernel_rfl
@[simp] theorem uzero66 : uzero Try.prog 66 = some [.nilf] := by kernel_rfl
@[simp] theorem usz67 : usz Try.prog 67 = some 1 := by kernel_rfl
@[simp] theorem ubytes67 : ubytes Try.prog 67 = some 8 := by kernel_rfl
@[simp] theorem uagg67 : uagg Try.prog 67 = some false := by kernel_rfl
@[simp] theorem uslice67 : uslice Try.prog 67 = none := by kernel_rfl
@[simp] theorem uarr67 : uarr Try.prog 67 = none := by kernel_rfl
@[simp] theorem uint67 : uint Try.prog 67 = none := by kernel_rfl
@[simp] theorem ustr67 : ustr Try.prog 67 = false := by kernel_rfl
@[simp] theorem uiface67 : uiface Try.prog 67 = some false := by kernel_rfl
@[simp] theorem uzero67 : uzero Try.prog 67 = some [.nilf] := by kernel_rfl
@[simp] theorem usz68 : usz Try.prog 68 = some 1 := by kernel_rfl
@[simp] theorem ubytes68 : ubytes Try.prog 68 = some 8 := by kernel_rfl
@[simp] theorem uagg68 : uagg Try.prog 68 = some false := by kernel_rfl
@[simp] theorem uslice68 : uslice Try.prog 68 = none := by kernel_rfl
@[simp] theorem uarr68 : uarr Try.prog 68 = none := by kernel_rfl
@[simp] theorem uint68 : uint Try.prog 68 = none := by kernel_rfl
@[simp] theorem ustr68 : ustr Try.prog 68 = false := by kernel_rfl
@[simp] theorem uiface68 : uiface Try.prog 68 = some false := by kernel_rfl
@[simp] theorem uzero68 : uzero Try.prog 68 = some [.nilf] := by kernel_rfl
@[simp] theorem usz69 : usz Try.prog 69 = some 1 := by kernel_rfl
@[simp] theorem ubytes69 : ubytes Try.prog 69 = some 8 := by kernel_rfl
@[simp] theorem uagg69 : uagg Try.prog 69 = some false := by kernel_rfl
@[simp] theorem uslice69 : uslice Try.prog 69 = none := by kernel_rfl
@[simp] theorem uarr69 : uarr Try.prog 69 = none := by kernel_rfl
@[simp] theorem uint69 : uint Try.prog 69 = none := by kernel_rfl
@[simp] theorem ustr69 : ustr Try.prog 69 = false := by kernel_rfl
@[simp] theorem uiface69 : uiface Try.prog 69 = some false := by kernel_rfl
@[simp] theorem uzero69 : uzero Try.prog 69 = some [.nilf] := by kernel_rfl
@[simp] theorem usz70 : usz Try.prog 70 = some 1 := by kernel_rfl
@[simp] theorem ubytes70 : ubytes Try.prog 70 = some 8 := by kernel_rfl
@[simp] theorem uagg70 : uagg Try.prog 70 = some false := by kernel_rfl
@[simp] theorem uslice70 : uslice Try.prog 70 = none := by kernel_rfl
@[simp] theorem uarr70 : uarr Try.prog 70 = none := by kernel_rfl
@[simp] theorem uint70 : uint Try.prog 70 = none := by kernel_rfl
@[simp] theorem ustr70 : ustr Try.prog 70 = false := by kernel_rfl
@[simp] theorem uiface70 : uiface Try.prog 70 = some false := by kernel_rfl
@[simp] theorem uzero70 : uzero Try.prog 70 = some [.nilf] := by kernel_rfl
@[simp] theorem usz71 : usz Try.prog 71 = some 1 := by kernel_rfl
@[simp] theorem ubytes71 : ubytes Try.prog 71 = some 8 := by kernel_rfl
@[simp] theorem uagg71 : uagg Try.prog 71 = some false := by kernel_rfl
@[simp] theorem uslice71 : uslice Try.prog 71 = none := by kernel_rfl
@[simp] theorem uarr71 : uarr Try.prog 71 = none := by kernel_rfl
@[simp] theorem uint71 : uint Try.prog 71 = none := by kernel_rfl
@[simp] theorem ustr71 : ustr Try.prog 71 = false := by kernel_rfl
@[simp] theorem uiface71 : uiface Try.prog 71 = some false := by kernel_rfl
@[simp] theorem uzero71 : uzero Try.prog 71 = some [.nilf] := by kernel_rfl
@[simp] theorem usz72 : usz Try.prog 72 = some 1 := by kernel_rfl
@[simp] theorem ubytes72 : ubytes Try.prog 72 = some 8 := by kernel_rfl
@[simp] theorem uagg72 : uagg Try.prog 72 = some false := by kernel_rfl
@[simp] theorem uslice72 : uslice Try.prog 72 = none := by kernel_rfl
@[simp] theorem uarr72 : uarr Try.prog 72 = none := by kernel_rfl
@[simp] theorem uint72 : uint Try.prog 72 = none := by kernel_rfl
@[simp] theorem ustr72 : ustr Try.prog 72 = false := by kernel_rfl
@[simp] theorem uiface72 : uiface Try.prog 72 = some false := by kernel_rfl
@[simp] theorem uzero72 : uzero Try.prog 72 = some [.nilf] := by kernel_rfl
@[simp] theorem usz73 : usz Try.prog 73 = some 1 := by kernel_rfl
@[simp] theorem ubytes73 : ubytes Try.prog 73 = some 8 := by kernel_rfl
@[simp] theorem uagg73 : uagg Try.prog 73 = some false := by kernel_rfl
@[simp] theorem uslice73 : uslice Try.prog 73 = none := by kernel_rfl
@[simp] theorem uarr73 : uarr Try.prog 73 = none := by kernel_rfl
@[simp] theorem uint73 : uint Try.prog 73 = none := by kernel_rfl
@[simp] theorem ustr73 : ustr Try.prog 73 = false := by kernel_rfl
@[simp] theorem uiface73 : uiface Try.prog 73 = some false := by kernel_rfl
@[simp] theorem uzero73 : uzero Try.prog 73 = some [.nilf] := by kernel_rfl
@[simp] theorem usz74 : usz Try.prog 74 = some 2 := by kernel_rfl
@[simp] theorem ubytes74 : ubytes Try.prog 74 = some 32 := by kernel_rfl
@[simp] theorem uagg74 : uagg Try.prog 74 = some true := by kernel_rfl
@[simp] theorem uslice74 : uslice Try.prog 74 = none := by kernel_rfl
@[simp] theorem uarr74 : uarr Try.prog 74 = none := by kernel_rfl
@[simp] theorem uint74 : uint Try.prog 74 = none := by kernel_rfl
@[simp] theorem ustr74 : ustr Try.prog 74 = false := by kernel_rfl
@[simp] theorem uiface74 : uiface Try.prog 74 = some false := by kernel_rfl
@[simp] theorem ufield74_0 : ufield Try.prog 74 0 = some (22, 0) := by kernel_rfl
@[simp] theorem uplace74_0 : uplace Try.prog 74 0 = some (0, 1) := by kernel_rfl
@[simp] theorem ufield74_1 : ufield Try.prog 74 1 = some (3, 1) := by kernel_rfl
@[simp] theorem uplace74_1 : uplace Try.prog 74 1 = some (1, 1) := by kernel_rfl
@[simp] theorem uplaces74 : (uplaces Try.prog 74).isSome = true := by kernel_rfl
@[simp] theorem uzero74 : uzero Try.prog 74 = some [.nils, .int .i64 0] := by kernel_rfl
@[simp] theorem usz75 : usz Try.prog 75 = some 2 := by kernel_rfl
@[simp] theorem ubytes75 : ubytes Try.prog 75 = some 32 := by kernel_rfl
@[simp] theorem uagg75 : uagg Try.prog 75 = some true := by kernel_rfl
@[simp] theorem uslice75 : uslice Try.prog 75 = none := by kernel_rfl
@[simp] theorem uarr75 : uarr Try.prog 75 = none := by kernel_rfl
@[simp] theorem uint75 : uint Try.prog 75 = none := by kernel_rfl
@[simp] theorem ustr75 : ustr Try.prog 75 = false := by kernel_rfl
@[simp] theorem uiface75 : uiface Try.prog 75 = some false := by kernel_rfl
@[simp] theorem ufield75_0 : ufield Try.prog 75 0 = some (22, 0) := by kernel_rfl
@[simp] theorem uplace75_0 : uplace Try.prog 75 0 = some (0, 1) := by kernel_rfl
@[simp] theorem ufield75_1 : ufield Try.prog 75 1 = some (3, 1) := by kernel_rfl
@[simp] theorem uplace75_1 : uplace Try.prog 75 1 = some (1, 1) := by kernel_rfl
@[simp] theorem uplaces75 : (uplaces Try.prog 75).isSome = true := by kernel_rfl
@[simp] theorem uzero75 : uzero Try.prog 75 = some [.nils, .int .i64 0] := by kernel_rfl
@[simp] theorem usz76 : usz Try.prog 76 = some 1 := by kernel_rfl
@[simp] theorem ubytes76 : ubytes Try.prog 76 = some 8 := by kernel_rfl
@[simp] theorem uagg76 : uagg Try.prog 76 = some false := by kernel_rfl
@[simp] theorem uslice76 : uslice Try.prog 76 = none := by kernel_rfl
@[simp] theorem uarr76 : uarr Try.prog 76 = none := by kernel_rfl
@[simp] theorem uint76 : uint Try.prog 76 = none := by kernel_rfl
@[simp] theorem ustr76 : ustr Try.prog 76 = false := by kernel_rfl
@[simp] theorem uiface76 : uiface Try.prog 76 = some false := by kernel_rfl
@[simp] theorem uzero76 : uzero Try.prog 76 = some [.nilf] := by kernel_rfl
@[simp] theorem usz77 : usz Try.prog 77 = some 1 := by kernel_rfl
@[simp] theorem ubytes77 : ubytes Try.prog 77 = some 8 := by kernel_rfl
@[simp] theorem uagg77 : uagg Try.prog 77 = some false := by kernel_rfl
@[simp] theorem uslice77 : uslice Try.prog 77 = none := by kernel_rfl
@[simp] theorem uarr77 : uarr Try.prog 77 = none := by kernel_rfl
@[simp] theorem uint77 : uint Try.prog 77 = none := by kernel_rfl
@[simp] theorem ustr77 : ustr Try.prog 77 = false := by kernel_rfl
@[simp] theorem uiface77 : uiface Try.prog 77 = some false := by kernel_rfl
@[simp] theorem uzero77 : uzero Try.prog 77 = some [.nilf] := by kernel_rfl
@[simp] theorem usz78 : usz Try.prog 78 = some 1 := by kernel_rfl
@[simp] theorem ubytes78 : ubytes Try.prog 78 = some 8 := by kernel_rfl
@[simp] theorem uagg78 : uagg Try.prog 78 = some false := by kernel_rfl
@[simp] theorem uslice78 : uslice Try.prog 78 = none := by kernel_rfl
@[simp] theorem uarr78 : uarr Try.prog 78 = none := by kernel_rfl
@[simp] theorem uint78 : uint Try.prog 78 = none := by kernel_rfl
@[simp] theorem ustr78 : ustr Try.prog 78 = false := by kernel_rfl
@[simp] theorem uiface78 : uiface Try.prog 78 = some false := by kernel_rfl
@[simp] theorem uzero78 : uzero Try.prog 78 = some [.nilf] := by kernel_rfl
@[simp] theorem usz79 : usz Try.prog 79 = some 3 := by kernel_rfl
@[simp] theorem ubytes79 : ubytes Try.prog 79 = some 48 := by kernel_rfl
@[simp] theorem uagg79 : uagg Try.prog 79 = some true := by kernel_rfl
@[simp] theorem uslice79 : uslice Try.prog 79 = none := by kernel_rfl
@[simp] theorem uarr79 : uarr Try.prog 79 = none := by kernel_rfl
@[simp] theorem uint79 : uint Try.prog 79 = none := by kernel_rfl
@[simp] theorem ustr79 : ustr Try.prog 79 = false := by kernel_rfl
@[simp] theorem uiface79 : uiface Try.prog 79 = some false := by kernel_rfl
@[simp] theorem ufield79_0 : ufield Try.prog 79 0 = some (3, 0) := by kernel_rfl
@[simp] theorem uplace79_0 : uplace Try.prog 79 0 = some (0, 1) := by kernel_rfl
@[simp] theorem ufield79_1 : ufield Try.prog 79 1 = some (9, 1) := by kernel_rfl
@[simp] theorem uplace79_1 : uplace Try.prog 79 1 = some (1, 1) := by kernel_rfl
@[simp] theorem ufield79_2 : ufield Try.prog 79 2 = some (27, 2) := by kernel_rfl
@[simp] theorem uplace79_2 : uplace Try.prog 79 2 = some (2, 1) := by kernel_rfl
@[simp] theorem uplaces79 : (uplaces Try.prog 79).isSome = true := by kernel_rfl
@[simp] theorem uzero79 : uzero Try.prog 79 = some [.int .i64 0, .str [], .nils] := by kernel_rfl
@[simp] theorem usz80 : usz Try.prog 80 = some 3 := by kernel_rfl
@[simp] theorem ubytes80 : ubytes Try.prog 80 = some 48 := by kernel_rfl
@[simp] theorem uagg80 : uagg Try.prog 80 = some true := by kernel_rfl
@[simp] theorem uslice80 : uslice Try.prog 80 = none := by kernel_rfl
@[simp] theorem uarr80 : uarr Try.prog 80 = none := by kernel_rfl
@[simp] theorem uint80 : uint Try.prog 80 = none := by kernel_rfl
@[simp] theorem ustr80 : ustr Try.prog 80 = false := by kernel_rfl
@[simp] theorem uiface80 : uiface Try.prog 80 = some false := by kernel_rfl
@[simp] theorem ufield80_0 : ufield Try.prog 80 0 = some (3, 0) := by kernel_rfl
@[simp] theorem uplace80_0 : uplace Try.prog 80 0 = some (0, 1) := by kernel_rfl
@[simp] theorem ufield80_1 : ufield Try.prog 80 1 = some (9, 1) := by kernel_rfl
@[simp] theorem uplace80_1 : uplace Try.prog 80 1 = some (1, 1) := by kernel_rfl
@[simp] theorem ufield80_2 : ufield Try.prog 80 2 = some (27, 2) := by kernel_rfl
@[simp] theorem uplace80_2 : uplace Try.prog 80 2 = some (2, 1) := by kernel_rfl
@[simp] theorem uplaces80 : (uplaces Try.prog 80).isSome = true := by kernel_rfl
@[simp] theorem uzero80 : uzero Try.prog 80 = some [.int .i64 0, .str [], .nils] := by kernel_rfl
@[simp] theorem usz81 : usz Try.prog 81 = some 1 := by kernel_rfl
@[simp] theorem ubytes81 : ubytes Try.prog 81 = some 8 := by kernel_rfl
@[simp] theorem uagg81 : uagg Try.prog 81 = some false := by kernel_rfl
@[simp] theorem uslice81 : uslice Try.prog 81 = none := by kernel_rfl
@[simp] theorem uarr81 : uarr Try.prog 81 = none := by kernel_rfl
@[simp] theorem uint81 : uint Try.prog 81 = none := by kernel_rfl
@[simp] theorem ustr81 : ustr Try.prog 81 = false := by kernel_rfl
@[simp] theorem uiface81 : uiface Try.prog 81 = some false := by kernel_rfl
@[simp] theorem uzero81 : uzero Try.prog 81 = some [.nilf] := by kernel_rfl
@[simp] theorem usz82 : usz Try.prog 82 = some 1 := by kernel_rfl
@[simp] theorem ubytes82 : ubytes Try.prog 82 = some 8 := by kernel_rfl
@[simp] theorem uagg82 : uagg Try.prog 82 = some false := by kernel_rfl
@[simp] theorem uslice82 : uslice Try.prog 82 = none := by kernel_rfl
@[simp] theorem uarr82 : uarr Try.prog 82 = none := by kernel_rfl
@[simp] theorem uint82 : uint Try.prog 82 = none := by kernel_rfl
@[simp] theorem ustr82 : ustr Try.prog 82 = false := by kernel_rfl
@[simp] theorem uiface82 : uiface Try.prog 82 = some false := by kernel_rfl
@[simp] theorem uzero82 : uzero Try.prog 82 = some [.nilf] := by kernel_rfl
@[simp] theorem usz83 : usz Try.prog 83 = some 1 := by kernel_rfl
@[simp] theorem ubytes83 : ubytes Try.prog 83 = some 8 := by kernel_rfl
@[simp] theorem uagg83 : uagg Try.prog 83 = some false := by kernel_rfl
@[simp] theorem uslice83 : uslice Try.prog 83 = none := by kernel_rfl
@[simp] theorem uarr83 : uarr Try.prog 83 = none := by kernel_rfl
@[simp] theorem uint83 : uint Try.prog 83 = none := by kernel_rfl
@[simp] theorem ustr83 : ustr Try.prog 83 = false := by kernel_rfl
@[simp] theorem uiface83 : uiface Try.prog 83 = some false := by kernel_rfl
@[simp] theorem uzero83 : uzero Try.prog 83 = some [.nilf] := by kernel_rfl
@[simp] theorem usz84 : usz Try.prog 84 = some 1 := by kernel_rfl
@[simp] theorem ubytes84 : ubytes Try.prog 84 = some 8 := by kernel_rfl
@[simp] theorem uagg84 : uagg Try.prog 84 = some false := by kernel_rfl
@[simp] theorem uslice84 : uslice Try.prog 84 = none := by kernel_rfl
@[simp] theorem uarr84 : uarr Try.prog 84 = none := by kernel_rfl
@[simp] theorem uint84 : uint Try.prog 84 = none := by kernel_rfl
@[simp] theorem ustr84 : ustr Try.prog 84 = false := by kernel_rfl
@[simp] theorem uiface84 : uiface Try.prog 84 = some false := by kernel_rfl
@[simp] theorem uzero84 : uzero Try.prog 84 = some [.nilf] := by kernel_rfl
@[simp] theorem usz85 : usz Try.prog 85 = some 1 := by kernel_rfl
@[simp] theorem ubytes85 : ubytes Try.prog 85 = some 8 := by kernel_rfl
@[simp] theorem uagg85 : uagg Try.prog 85 = some false := by kernel_rfl
@[simp] theorem uslice85 : uslice Try.prog 85 = none := by kernel_rfl
@[simp] theorem uarr85 : uarr Try.prog 85 = none := by kernel_rfl
@[simp] theorem uint85 : uint Try.prog 85 = none := by kernel_rfl
@[simp] theorem ustr85 : ustr Try.prog 85 = false := by kernel_rfl
@[simp] theorem uiface85 : uiface Try.prog 85 = some false := by kernel_rfl
@[simp] theorem uzero85 : uzero Try.prog 85 = some [.nilf] := by kernel_rfl
@[simp] theorem usz86 : usz Try.prog 86 = some 1 := by kernel_rfl
@[simp] theorem ubytes86 : ubytes Try.prog 86 = some 8 := by kernel_rfl
@[simp] theorem uagg86 : uagg Try.prog 86 = some false := by kernel_rfl
@[simp] theorem uslice86 : uslice Try.prog 86 = none := by kernel_rfl
@[simp] theorem uarr86 : uarr Try.prog 86 = none := by kernel_rfl
@[simp] theorem uint86 : uint Try.prog 86 = none := by kernel_rfl
@[simp] theorem ustr86 : ustr Try.prog 86 = false := by kernel_rfl
@[simp] theorem uiface86 : uiface Try.prog 86 = some false := by kernel_rfl
@[simp] theorem uzero86 : uzero Try.prog 86 = some [.nilf] := by kernel_rfl
@[simp] theorem usz87 : usz Try.prog 87 = some 1 := by kernel_rfl
@[simp] theorem ubytes87 : ubytes Try.prog 87 = some 24 := by kernel_rfl
@[simp] theorem uagg87 : uagg Try.prog 87 = some false := by kernel_rfl
@[simp] theorem uslice87 : uslice Try.prog 87 = some 89 := by kernel_rfl
@[simp] theorem uarr87 : uarr Try.prog 87 = none := by kernel_rfl
@[simp] theorem uint87 : uint Try.prog 87 = none := by kernel_rfl
@[simp] theorem ustr87 : ustr Try.prog 87 = false := by kernel_rfl
@[simp] theorem uiface87 : uiface Try.prog 87 = some false := by kernel_rfl
@[simp] theorem uzero87 : uzero Try.prog 87 = some [.nils] := by kernel_rfl
@[simp] theorem usz88 : usz Try.prog 88 = some 3 := by kernel_rfl
@[simp] theorem ubytes88 : ubytes Try.prog 88 = some 40 := by kernel_rfl
@[simp] theorem uagg88 : uagg Try.prog 88 = some true := by kernel_rfl
@[simp] theorem uslice88 : uslice Try.prog 88 = none := by kernel_rfl
@[simp] theorem uarr88 : uarr Try.prog 88 = none := by kernel_rfl
@[simp] theorem uint88 : uint Try.prog 88 = none := by kernel_rfl
@[simp] theorem ustr88 : ustr Try.prog 88 = false := by kernel_rfl
@[simp] theorem uiface88 : uiface Try.prog 88 = some false := by kernel_rfl
@[simp] theorem ufield88_0 : ufield Try.prog 88 0 = some (9, 0) := by kernel_rfl
@[simp] theorem uplace88_0 : uplace Try.prog 88 0 = some (0, 1) := by kernel_rfl
@[simp] theorem ufield88_1 : ufield Try.prog 88 1 = some (3, 1) := by kernel_rfl
@[simp] theorem uplace88_1 : uplace Try.prog 88 1 = some (1, 1) := by kernel_rfl
@[simp] theorem ufield88_2 : ufield Try.prog 88 2 = some (9, 2) := by kernel_rfl
@[simp] theorem uplace88_2 : uplace Try.prog 88 2 = some (2, 1) := by kernel_rfl
@[simp] theorem uplaces88 : (uplaces Try.prog 88).isSome = true := by kernel_rfl
@[simp] theorem uzero88 : uzero Try.prog 88 = some [.str [], .int .i64 0, .str []] := by kernel_rfl
@[simp] theorem usz89 : usz Try.prog 89 = some 3 := by kernel_rfl
@[simp] theorem ubytes89 : ubytes Try.prog 89 = some 40 := by kernel_rfl
@[simp] theorem uagg89 : uagg Try.prog 89 = some true := by kernel_rfl
@[simp] theorem uslice89 : uslice Try.prog 89 = none := by kernel_rfl
@[simp] theorem uarr89 : uarr Try.prog 89 = none := by kernel_rfl
@[simp] theorem uint89 : uint Try.prog 89 = none := by kernel_rfl
@[simp] theorem ustr89 : ustr Try.prog 89 = false := by kernel_rfl
@[simp] theorem uiface89 : uiface Try.prog 89 = some false := by kernel_rfl
@[simp] theorem ufield89_0 : ufield Try.prog 89 0 = some (9, 0) := by kernel_rfl
@[simp] theorem uplace89_0 : uplace Try.prog 89 0 = some (0, 1) := by kernel_rfl
@[simp] theorem ufield89_1 : ufield Try.prog 89 1 = some (3, 1) := by kernel_rfl
@[simp] theorem uplace89_1 : uplace Try.prog 89 1 = some (1, 1) := by kernel_rfl
@[simp] theorem ufield89_2 : ufield Try.prog 89 2 = some (9, 2) := by kernel_rfl
@[simp] theorem uplace89_2 : uplace Try.prog 89 2 = some (2, 1) := by kernel_rfl
@[simp] theorem uplaces89 : (uplaces Try.prog 89).isSome = true := by kernel_rfl
@[simp] theorem uzero89 : uzero Try.prog 89 = some [.str [], .int .i64 0, .str []] := by kernel_rfl
@[simp] theorem usz90 : usz Try.prog 90 = some 1 := by kernel_rfl
@[simp] theorem ubytes90 : ubytes Try.prog 90 = some 8 := by kernel_rfl
@[simp] theorem uagg90 : uagg Try.prog 90 = some false := by kernel_rfl
@[simp] theorem uslice90 : uslice Try.prog 90 = none := by kernel_rfl
@[simp] theorem uarr90 : uarr Try.prog 90 = none := by kernel_rfl
@[simp] theorem uint90 : uint Try.prog 90 = none := by kernel_rfl
@[simp] theorem ustr90 : ustr Try.prog 90 = false := by kernel_rfl
@[simp] theorem uiface90 : uiface Try.prog 90 = some false := by kernel_rfl
@[simp] theorem uzero90 : uzero Try.prog 90 = some [.nilf] := by kernel_rfl
@[simp] theorem usz91 : usz Try.prog 91 = some 1 := by kernel_rfl
@[simp] theorem ubytes91 : ubytes Try.prog 91 = some 0 := by kernel_rfl
@[simp] theorem uagg91 : uagg Try.prog 91 = some false := by kernel_rfl
@[simp] theorem uslice91 : uslice Try.prog 91 = none := by kernel_rfl
@[simp] theorem uarr91 : uarr Try.prog 91 = none := by kernel_rfl
@[simp] theorem uint91 : uint Try.prog 91 = none := by kernel_rfl
@[simp] theorem ustr91 : ustr Try.prog 91 = false := by kernel_rfl
@[simp] theorem uiface91 : uiface Try.prog 91 = some false := by kernel_rfl
@[simp] theorem usz92 : usz Try.prog 92 = some 1 := by kernel_rfl
@[simp] theorem ubytes92 : ubytes Try.prog 92 = some 8 := by kernel_rfl
@[simp] theorem uagg92 : uagg Try.prog 92 = some false := by kernel_rfl
@[simp] theorem uslice92 : uslice Try.prog 92 = none := by kernel_rfl
@[simp] theorem uarr92 : uarr Try.prog 92 = none := by kernel_rfl
@[simp] theorem uint92 : uint Try.prog 92 = none := by kernel_rfl
@[simp] theorem ustr92 : ustr Try.prog 92 = false := by kernel_rfl
@[simp] theorem uiface92 : uiface Try.prog 92 = some false := by kernel_rfl
@[simp] theorem uzero92 : uzero Try.prog 92 = some [.nilf] := by kernel_rfl
@[simp] theorem usz93 : usz Try.prog 93 = some 1 := by kernel_rfl
@[simp] theorem ubytes93 : ubytes Try.prog 93 = some 8 := by kernel_rfl
@[simp] theorem uagg93 : uagg Try.prog 93 = some false := by kernel_rfl
@[simp] theorem uslice93 : uslice Try.prog 93 = none := by kernel_rfl
@[simp] theorem uarr93 : uarr Try.prog 93 = none := by kernel_rfl
@[simp] theorem uint93 : uint Try.prog 93 = none := by kernel_rfl
@[simp] theorem ustr93 : ustr Try.prog 93 = false := by kernel_rfl
@[simp] theorem uiface93 : uiface Try.prog 93 = some false := by kernel_rfl
@[simp] theorem uptr93 : uptr Try.prog 93 = true := by kernel_rfl
@[simp] theorem uzero93 : uzero Try.prog 93 = some [.nilp] := by kernel_rfl
@[simp] theorem usz94 : usz Try.prog 94 = some 1 := by kernel_rfl
@[simp] theorem ubytes94 : ubytes Try.prog 94 = some 8 := by kernel_rfl
@[simp] theorem uagg94 : uagg Try.prog 94 = some false := by kernel_rfl
@[simp] theorem uslice94 : uslice Try.prog 94 = none := by kernel_rfl
@[simp] theorem uarr94 : uarr Try.prog 94 = none := by kernel_rfl
@[simp] theorem uint94 : uint Try.prog 94 = none := by kernel_rfl
@[simp] theorem ustr94 : ustr Try.prog 94 = false := by kernel_rfl
@[simp] theorem uiface94 : uiface Try.prog 94 = some false := by kernel_rfl
@[simp] theorem uzero94 : uzero Try.prog 94 = some [.nilf] := by kernel_rfl
@[simp] theorem usz95 : usz Try.prog 95 = some 1 := by kernel_rfl
@[simp] theorem ubytes95 : ubytes Try.prog 95 = some 8 := by kernel_rfl
@[simp] theorem uagg95 : uagg Try.prog 95 = some false := by kernel_rfl
@[simp] theorem uslice95 : uslice Try.prog 95 = none := by kernel_rfl
@[simp] theorem uarr95 : uarr Try.prog 95 = none := by kernel_rfl
@[simp] theorem uint95 : uint Try.prog 95 = none := by kernel_rfl
@[simp] theorem ustr95 : ustr Try.prog 95 = false := by kernel_rfl
@[simp] theorem uiface95 : uiface Try.prog 95 = some false := by kernel_rfl
@[simp] theorem uzero95 : uzero Try.prog 95 = some [.nilf] := by kernel_rfl
@[simp] theorem usz96 : usz Try.prog 96 = some 2 := by kernel_rfl
@[simp] theorem ubytes96 : ubytes Try.prog 96 = some 32 := by kernel_rfl
@[simp] theorem uagg96 : uagg Try.prog 96 = some true := by kernel_rfl
@[simp] theorem uslice96 : uslice Try.prog 96 = none := by kernel_rfl
@[simp] theorem uarr96 : uarr Try.prog 96 = none := by kernel_rfl
@[simp] theorem uint96 : uint Try.prog 96 = none := by kernel_rfl
@[simp] theorem ustr96 : ustr Try.prog 96 = false := by kernel_rfl
@[simp] theorem uiface96 : uiface Try.prog 96 = some false := by kernel_rfl
@[simp] theorem ufield96_0 : ufield Try.prog 96 0 = some (9, 0) := by kernel_rfl
@[simp] theorem uplace96_0 : uplace Try.prog 96 0 = some (0, 1) := by kernel_rfl
@[simp] theorem ufield96_1 : ufield Try.prog 96 1 = some (9, 1) := by kernel_rfl
@[simp] theorem uplace96_1 : uplace Try.prog 96 1 = some (1, 1) := by kernel_rfl
@[simp] theorem uplaces96 : (uplaces Try.prog 96).isSome = true := by kernel_rfl
@[simp] theorem uzero96 : uzero Try.prog 96 = some [.str [], .str []] := by kernel_rfl
@[simp] theorem usz97 : usz Try.prog 97 = some 2 := by kernel_rfl
@[simp] theorem ubytes97 : ubytes Try.prog 97 = some 32 := by kernel_rfl
@[simp] theorem uagg97 : uagg Try.prog 97 = some true := by kernel_rfl
@[simp] theorem uslice97 : uslice Try.prog 97 = none := by kernel_rfl
@[simp] theorem uarr97 : uarr Try.prog 97 = none := by kernel_rfl
@[simp] theorem uint97 : uint Try.prog 97 = none := by kernel_rfl
@[simp] theorem ustr97 : ustr Try.prog 97 = false := by kernel_rfl
@[simp] theorem uiface97 : uiface Try.prog 97 = some false := by kernel_rfl
@[simp] theorem ufield97_0 : ufield Try.prog 97 0 = some (9, 0) := by kernel_rfl
@[simp] theorem uplace97_0 : uplace Try.prog 97 0 = some (0, 1) := by kernel_rfl
@[simp] theorem ufield97_1 : ufield Try.prog 97 1 = some (9, 1) := by kernel_rfl
@[simp] theorem uplace97_1 : uplace Try.prog 97 1 = some (1, 1) := by kernel_rfl
@[simp] theorem uplaces97 : (uplaces Try.prog 97).isSome = true := by kernel_rfl
@[simp] theorem uzero97 : uzero Try.prog 97 = some [.str [], .str []] := by kernel_rfl
@[simp] theorem usz98 : usz Try.prog 98 = some 1 := by kernel_rfl
@[simp] theorem ubytes98 : ubytes Try.prog 98 = some 8 := by kernel_rfl
@[simp] theorem uagg98 : uagg Try.prog 98 = some false := by kernel_rfl
@[simp] theorem uslice98 : uslice Try.prog 98 = none := by kernel_rfl
@[simp] theorem uarr98 : uarr Try.prog 98 = none := by kernel_rfl
@[simp] theorem uint98 : uint Try.prog 98 = none := by kernel_rfl
@[simp] theorem ustr98 : ustr Try.prog 98 = false := by kernel_rfl
@[simp] theorem uiface98 : uiface Try.prog 98 = some false := by kernel_rfl
@[simp] theorem uzero98 : uzero Try.prog 98 = some [.nilf] := by kernel_rfl
@[simp] theorem usz99 : usz Try.prog 99 = some 1 := by kernel_rfl
@[simp] theorem ubytes99 : ubytes Try.prog 99 = some 8 := by kernel_rfl
@[simp] theorem uagg99 : uagg Try.prog 99 = some false := by kernel_rfl
@[simp] theorem uslice99 : uslice Try.prog 99 = none := by kernel_rfl
@[simp] theorem uarr99 : uarr Try.prog 99 = none := by kernel_rfl
@[simp] theorem uint99 : uint Try.prog 99 = none := by kernel_rfl
@[simp] theorem ustr99 : ustr Try.prog 99 = false := by kernel_rfl
@[simp] theorem uiface99 : uiface Try.prog 99 = some false := by kernel_rfl
@[simp] theorem uzero99 : uzero Try.prog 99 = some [.nilf] := by kernel_rfl
@[simp] theorem usz100 : usz Try.prog 100 = some 1 := by kernel_rfl
@[simp] theorem ubytes100 : ubytes Try.prog 100 = some 8 := by kernel_rfl
@[simp] theorem uagg100 : uagg Try.prog 100 = some false := by kernel_rfl
@[simp] theorem uslice100 : uslice Try.prog 100 = none := by kernel_rfl
@[simp] theorem uarr100 : uarr Try.prog 100 = none := by kernel_rfl
@[simp] theorem uint100 : uint Try.prog 100 = none := by kernel_rfl
@[simp] theorem ustr100 : ustr Try.prog 100 = false := by kernel_rfl
@[simp] theorem uiface100 : uiface Try.prog 100 = some false := by kernel_rfl
@[simp] theorem uzero100 : uzero Try.prog 100 = some [.nilf] := by kernel_rfl
@[simp] theorem usz101 : usz Try.prog 101 = some 1 := by kernel_rfl
@[simp] theorem ubytes101 : ubytes Try.prog 101 = some 8 := by kernel_rfl
@[simp] theorem uagg101 : uagg Try.prog 101 = some false := by kernel_rfl
@[simp] theorem uslice101 : uslice Try.prog 101 = none := by kernel_rfl
@[simp] theorem uarr101 : uarr Try.prog 101 = none := by kernel_rfl
@[simp] theorem uint101 : uint Try.prog 101 = none := by kernel_rfl
@[simp] theorem ustr101 : ustr Try.prog 101 = false := by kernel_rfl
@[simp] theorem uiface101 : uiface Try.prog 101 = some false := by kernel_rfl
@[simp] theorem uzero101 : uzero Try.prog 101 = some [.nilf] := by kernel_rfl
@[simp] theorem usz102 : usz Try.prog 102 = some 1 := by kernel_rfl
@[simp] theorem ubytes102 : ubytes Try.prog 102 = some 8 := by kernel_rfl
@[simp] theorem uagg102 : uagg Try.prog 102 = some false := by kernel_rfl
@[simp] theorem uslice102 : uslice Try.prog 102 = none := by kernel_rfl
@[simp] theorem uarr102 : uarr Try.prog 102 = none := by kernel_rfl
@[simp] theorem uint102 : uint Try.prog 102 = none := by kernel_rfl
@[simp] theorem ustr102 : ustr Try.prog 102 = false := by kernel_rfl
@[simp] theorem uiface102 : uiface Try.prog 102 = some false := by kernel_rfl
@[simp] theorem uptr102 : uptr Try.prog 102 = true := by kernel_rfl
@[simp] theorem uzero102 : uzero Try.prog 102 = some [.nilp] := by kernel_rfl
@[simp] theorem usz103 : usz Try.prog 103 = some 1 := by kernel_rfl
@[simp] theorem ubytes103 : ubytes Try.prog 103 = some 24 := by kernel_rfl
@[simp] theorem uagg103 : uagg Try.prog 103 = some false := by kernel_rfl
@[simp] theorem uslice103 : uslice Try.prog 103 = some 102 := by kernel_rfl
@[simp] theorem uarr103 : uarr Try.prog 103 = none := by kernel_rfl
@[simp] theorem uint103 : uint Try.prog 103 = none := by kernel_rfl
@[simp] theorem ustr103 : ustr Try.prog 103 = false := by kernel_rfl
@[simp] theorem uiface103 : uiface Try.prog 103 = some false := by kernel_rfl
@[simp] theorem uzero103 : uzero Try.prog 103 = some [.nils] := by kernel_rfl
@[simp] theorem usz104 : usz Try.prog 104 = some 1 := by kernel_rfl
@[simp] theorem ubytes104 : ubytes Try.prog 104 = some 8 := by kernel_rfl
@[simp] theorem uagg104 : uagg Try.prog 104 = some false := by kernel_rfl
@[simp] theorem uslice104 : uslice Try.prog 104 = none := by kernel_rfl
@[simp] theorem uarr104 : uarr Try.prog 104 = none := by kernel_rfl
@[simp] theorem uint104 : uint Try.prog 104 = none := by kernel_rfl
@[simp] theorem ustr104 : ustr Try.prog 104 = false := by kernel_rfl
@[simp] theorem uiface104 : uiface Try.prog 104 = some false := by kernel_rfl
@[simp] theorem uzero104 : uzero Try.prog 104 = some [.nilf] := by kernel_rfl
@[simp] theorem usz105 : usz Try.prog 105 = some 1 := by kernel_rfl
@[simp] theorem ubytes105 : ubytes Try.prog 105 = some 8 := by kernel_rfl
@[simp] theorem uagg105 : uagg Try.prog 105 = some false := by kernel_rfl
@[simp] theorem uslice105 : uslice Try.prog 105 = none := by kernel_rfl
@[simp] theorem uarr105 : uarr Try.prog 105 = none := by kernel_rfl
@[simp] theorem uint105 : uint Try.prog 105 = none := by kernel_rfl
@[simp] theorem ustr105 : ustr Try.prog 105 = false := by kernel_rfl
@[simp] theorem uiface105 : uiface Try.prog 105 = some false := by kernel_rfl
@[simp] theorem uzero105 : uzero Try.prog 105 = some [.nilf] := by kernel_rfl
@[simp] theorem usz106 : usz Try.prog 106 = some 1 := by kernel_rfl
@[simp] theorem ubytes106 : ubytes Try.prog 106 = some 8 := by kernel_rfl
@[simp] theorem uagg106 : uagg Try.prog 106 = some false := by kernel_rfl
@[simp] theorem uslice106 : uslice Try.prog 106 = none := by kernel_rfl
@[simp] theorem uarr106 : uarr Try.prog 106 = none := by kernel_rfl
@[simp] theorem uint106 : uint Try.prog 106 = none := by kernel_rfl
@[simp] theorem ustr106 : ustr Try.prog 106 = false := by kernel_rfl
@[simp] theorem uiface106 : uiface Try.prog 106 = some false := by kernel_rfl
@[simp] theorem uzero106 : uzero Try.prog 106 = some [.nilf] := by kernel_rfl
@[simp] theorem usz107 : usz Try.prog 107 = some 1 := by kernel_rfl
@[simp] theorem ubytes107 : ubytes Try.prog 107 = some 8 := by kernel_rfl
@[simp] theorem uagg107 : uagg Try.prog 107 = some false := by kernel_rfl
@[simp] theorem uslice107 : uslice Try.prog 107 = none := by kernel_rfl
@[simp] theorem uarr107 : uarr Try.prog 107 = none := by kernel_rfl
@[simp] theorem uint107 : uint Try.prog 107 = none := by kernel_rfl
@[simp] theorem ustr107 : ustr Try.prog 107 = false := by kernel_rfl
@[simp] theorem uiface107 : uiface Try.prog 107 = some false := by kernel_rfl
@[simp] theorem uzero107 : uzero Try.prog 107 = some [.nilf] := by kernel_rfl
@[simp] theorem usz108 : usz Try.prog 108 = some 1 := by kernel_rfl
@[simp] theorem ubytes108 : ubytes Try.prog 108 = some 8 := by kernel_rfl
@[simp] theorem uagg108 : uagg Try.prog 108 = some false := by kernel_rfl
@[simp] theorem uslice108 : uslice Try.prog 108 = none := by kernel_rfl
@[simp] theorem uarr108 : uarr Try.prog 108 = none := by kernel_rfl
@[simp] theorem uint108 : uint Try.prog 108 = none := by kernel_rfl
@[simp] theorem ustr108 : ustr Try.prog 108 = false := by kernel_rfl
@[simp] theorem uiface108 : uiface Try.prog 108 = some false := by kernel_rfl
@[simp] theorem uzero108 : uzero Try.prog 108 = some [.nilf] := by kernel_rfl
@[simp] theorem usz109 : usz Try.prog 109 = some 1 := by kernel_rfl
@[simp] theorem ubytes109 : ubytes Try.prog 109 = some 8 := by kernel_rfl
@[simp] theorem uagg109 : uagg Try.prog 109 = some false := by kernel_rfl
@[simp] theorem uslice109 : uslice Try.prog 109 = none := by kernel_rfl
@[simp] theorem uarr109 : uarr Try.prog 109 = none := by kernel_rfl
@[simp] theorem uint109 : uint Try.prog 109 = none := by kernel_rfl
@[simp] theorem ustr109 : ustr Try.prog 109 = false := by kernel_rfl
@[simp] theorem uiface109 : uiface Try.prog 109 = some false := by kernel_rfl
@[simp] theorem uzero109 : uzero Try.prog 109 = some [.nilf] := by kernel_rfl
@[simp] theorem usz110 : usz Try.prog 110 = some 1 := by kernel_rfl
@[simp] theorem ubytes110 : ubytes Try.prog 110 = some 8 := by kernel_rfl
@[simp] theorem uagg110 : uagg Try.prog 110 = some false := by kernel_rfl
@[simp] theorem uslice110 : uslice Try.prog 110 = none := by kernel_rfl
@[simp] theorem uarr110 : uarr Try.prog 110 = none := by kernel_rfl
@[simp] theorem uint110 : uint Try.prog 110 = none := by kernel_rfl
@[simp] theorem ustr110 : ustr Try.prog 110 = false := by kernel_rfl
@[simp] theorem uiface110 : uiface Try.prog 110 = some false := by kernel_rfl
@[simp] theorem uzero110 : uzero Try.prog 110 = some [.nilf] := by kernel_rfl
@[simp] theorem usz111 : usz Try.prog 111 = some 3 := by kernel_rfl
@[simp] theorem ubytes111 : ubytes Try.prog 111 = some 40 := by kernel_rfl
@[simp] theorem uagg111 : uagg Try.prog 111 = some true := by kernel_rfl
@[simp] theorem uslice111 : uslice Try.prog 111 = none := by kernel_rfl
@[simp] theorem uarr111 : uarr Try.prog 111 = none := by kernel_rfl
@[simp] theorem uint111 : uint Try.prog 111 = none := by kernel_rfl
@[simp] theorem ustr111 : ustr Try.prog 111 = false := by kernel_rfl
@[simp] theorem uiface111 : uiface Try.prog 111 = some false := by kernel_rfl
@[simp] theorem ufield111_0 : ufield Try.prog 111 0 = some (9, 0) := by kernel_rfl
@[simp] theorem uplace111_0 : uplace Try.prog 111 0 = some (0, 1) := by kernel_rfl
@[simp] theorem ufield111_1 : ufield Try.prog 111 1 = some (4, 1) := by kernel_rfl
@[simp] theorem uplace111_1 : uplace Try.prog 111 1 = some (1, 1) := by kernel_rfl
@[simp] theorem ufield111_2 : ufield Try.prog 111 2 = some (9, 2) := by kernel_rfl
@[simp] theorem uplace111_2 : uplace Try.prog 111 2 = some (2, 1) := by kernel_rfl
@[simp] theorem uplaces111 : (uplaces Try.prog 111).isSome = true := by kernel_rfl
@[simp] theorem uzero111 : uzero Try.prog 111 = some [.str [], .bool false, .str []] := by kernel_rfl
@[simp] theorem usz112 : usz Try.prog 112 = some 3 := by kernel_rfl
@[simp] theorem ubytes112 : ubytes Try.prog 112 = some 40 := by kernel_rfl
@[simp] theorem uagg112 : uagg Try.prog 112 = some true := by kernel_rfl
@[simp] theorem uslice112 : uslice Try.prog 112 = none := by kernel_rfl
@[simp] theorem uarr112 : uarr Try.prog 112 = none := by kernel_rfl
@[simp] theorem uint112 : uint Try.prog 112 = none := by kernel_rfl
@[simp] theorem ustr112 : ustr Try.prog 112 = false := by kernel_rfl
@[simp] theorem uiface112 : uiface Try.prog 112 = some false := by kernel_rfl
@[simp] theorem ufield112_0 : ufield Try.prog 112 0 = some (9, 0) := by kernel_rfl
@[simp] theorem uplace112_0 : uplace Try.prog 112 0 = some (0, 1) := by kernel_rfl
@[simp] theorem ufield112_1 : ufield Try.prog 112 1 = some (4, 1) := by kernel_rfl
@[simp] theorem uplace112_1 : uplace Try.prog 112 1 = some (1, 1) := by kernel_rfl
@[simp] theorem ufield112_2 : ufield Try.prog 112 2 = some (9, 2) := by kernel_rfl
@[simp] theorem uplace112_2 : uplace Try.prog 112 2 = some (2, 1) := by kernel_rfl
@[simp] theorem uplaces112 : (uplaces Try.prog 112).isSome = true := by kernel_rfl
@[simp] theorem uzero112 : uzero Try.prog 112 = some [.str [], .bool false, .str []] := by kernel_rfl
@[simp] theorem usz113 : usz Try.prog 113 = some 1 := by kernel_rfl
@[simp] theorem ubytes113 : ubytes Try.prog 113 = some 8 := by kernel_rfl
@[simp] theorem uagg113 : uagg Try.prog 113 = some false := by kernel_rfl
@[simp] theorem uslice113 : uslice Try.prog 113 = none := by kernel_rfl
@[simp] theorem uarr113 : uarr Try.prog 113 = none := by kernel_rfl
@[simp] theorem uint113 : uint Try.prog 113 = none := by kernel_rfl
@[simp] theorem ustr113 : ustr Try.prog 113 = false := by kernel_rfl
@[simp] theorem uiface113 : uiface Try.prog 113 = some false := by kernel_rfl
@[simp] theorem uzero113 : uzero Try.prog 113 = some [.nilf] := by kernel_rfl
@[simp] theorem usz114 : usz Try.prog 114 = some 1 := by kernel_rfl
@[simp] theorem ubytes114 : ubytes Try.prog 114 = some 8 := by kernel_rfl
@[simp] theorem uagg114 : uagg Try.prog 114 = some false := by kernel_rfl
@[simp] theorem uslice114 : uslice Try.prog 114 = none := by kernel_rfl
@[simp] theorem uarr114 : uarr Try.prog 114 = none := by kernel_rfl
@[simp] theorem uint114 : uint Try.prog 114 = none := by kernel_rfl
@[simp] theorem ustr114 : ustr Try.prog 114 = false := by kernel_rfl
@[simp] theorem uiface114 : uiface Try.prog 114 = some false := by kernel_rfl
@[simp] theorem uzero114 : uzero Try.prog 114 = some [.nilf] := by kernel_rfl
@[simp] theorem usz115 : usz Try.prog 115 = some 1 := by kernel_rfl
@[simp] theorem ubytes115 : ubytes Try.prog 115 = some 24 := by kernel_rfl
@[simp] theorem uagg115 : uagg Try.prog 115 = some false := by kernel_rfl
@[simp] theorem uslice115 : uslice Try.prog 115 = some 34 := by kernel_rfl
@[simp] theorem uarr115 : uarr Try.prog 115 = none := by kernel_rfl
@[simp] theorem uint115 : uint Try.prog 115 = none := by kernel_rfl
@[simp] theorem ustr115 : ustr Try.prog 115 = false := by kernel_rfl
@[simp] theorem uiface115 : uiface Try.prog 115 = some false := by kernel_rfl
@[simp] theorem uzero115 : uzero Try.prog 115 = some [.nils] := by kernel_rfl
@[simp] theorem usz116 : usz Try.prog 116 = some 3 := by kernel_rfl
@[simp] theorem ubytes116 : ubytes Try.prog 116 = some 56 := by kernel_rfl
@[simp] theorem uagg116 : uagg Try.prog 116 = some true := by kernel_rfl
@[simp] theorem uslice116 : uslice Try.prog 116 = none := by kernel_rfl
@[simp] theorem uarr116 : uarr Try.prog 116 = none := by kernel_rfl
@[simp] theorem uint116 : uint Try.prog 116 = none := by kernel_rfl
@[simp] theorem ustr116 : ustr Try.prog 116 = false := by kernel_rfl
@[simp] theorem uiface116 : uiface Try.prog 116 = some false := by kernel_rfl
@[simp] theorem ufield116_0 : ufield Try.prog 116 0 = some (9, 0) := by kernel_rfl
@[simp] theorem uplace116_0 : uplace Try.prog 116 0 = some (0, 1) := by kernel_rfl
@[simp] theorem ufield116_1 : ufield Try.prog 116 1 = some (9, 1) := by kernel_rfl
@[simp] theorem uplace116_1 : uplace Try.prog 116 1 = some (1, 1) := by kernel_rfl
@[simp] theorem ufield116_2 : ufield Try.prog 116 2 = some (115, 2) := by kernel_rfl
@[simp] theorem uplace116_2 : uplace Try.prog 116 2 = some (2, 1) := by kernel_rfl
@[simp] theorem uplaces116 : (uplaces Try.prog 116).isSome = true := by kernel_rfl
@[simp] theorem uzero116 : uzero Try.prog 116 = some [.str [], .str [], .nils] := by kernel_rfl
@[simp] theorem usz117 : usz Try.prog 117 = some 3 := by kernel_rfl
@[simp] theorem ubytes117 : ubytes Try.prog 117 = some 56 := by kernel_rfl
@[simp] theorem uagg117 : uagg Try.prog 117 = some true := by kernel_rfl
@[simp] theorem uslice117 : uslice Try.prog 117 = none := by kernel_rfl
@[simp] theorem uarr117 : uarr Try.prog 117 = none := by kernel_rfl
@[simp] theorem uint117 : uint Try.prog 117 = none := by kernel_rfl
@[simp] theorem ustr117 : ustr Try.prog 117 = false := by kernel_rfl
@[simp] theorem uiface117 : uiface Try.prog 117 = some false := by kernel_rfl
@[simp] theorem ufield117_0 : ufield Try.prog 117 0 = some (9, 0) := by kernel_rfl
@[simp] theorem uplace117_0 : uplace Try.prog 117 0 = some (0, 1) := by kernel_rfl
@[simp] theorem ufield117_1 : ufield Try.prog 117 1 = some (9, 1) := by kernel_rfl
@[simp] theorem uplace117_1 : uplace Try.prog 117 1 = some (1, 1) := by kernel_rfl
@[simp] theorem ufield117_2 : ufield Try.prog 117 2 = some (115, 2) := by kernel_rfl
@[simp] theorem uplace117_2 : uplace Try.prog 117 2 = some (2, 1) := by kernel_rfl
@[simp] theorem uplaces117 : (uplaces Try.prog 117).isSome = true := by kernel_rfl
@[simp] theorem uzero117 : uzero Try.prog 117 = some [.str [], .str [], .nils] := by kernel_rfl
@[simp] theorem usz118 : usz Try.prog 118 = some 1 := by kernel_rfl
@[simp] theorem ubytes118 : ubytes Try.prog 118 = some 8 := by kernel_rfl
@[simp] theorem uagg118 : uagg Try.prog 118 = some false := by kernel_rfl
@[simp] theorem uslice118 : uslice Try.prog 118 = none := by kernel_rfl
@[simp] theorem uarr118 : uarr Try.prog 118 = none := by kernel_rfl
@[simp] theorem uint118 : uint Try.prog 118 = none := by kernel_rfl
@[simp] theorem ustr118 : ustr Try.prog 118 = false := by kernel_rfl
@[simp] theorem uiface118 : uiface Try.prog 118 = some false := by kernel_rfl
@[simp] theorem uzero118 : uzero Try.prog 118 = some [.nilf] := by kernel_rfl
@[simp] theorem usz119 : usz Try.prog 119 = some 1 := by kernel_rfl
@[simp] theorem ubytes119 : ubytes Try.prog 119 = some 8 := by kernel_rfl
@[simp] theorem uagg119 : uagg Try.prog 119 = some false := by kernel_rfl
@[simp] theorem uslice119 : uslice Try.prog 119 = none := by kernel_rfl
@[simp] theorem uarr119 : uarr Try.prog 119 = none := by kernel_rfl
@[simp] theorem uint119 : uint Try.prog 119 = none := by kernel_rfl
@[simp] theorem ustr119 : ustr Try.prog 119 = false := by kernel_rfl
@[simp] theorem uiface119 : uiface Try.prog 119 = some false := by kernel_rfl
@[simp] theorem uzero119 : uzero Try.prog 119 = some [.nilf] := by kernel_rfl
@[simp] theorem usz120 : usz Try.prog 120 = some 1 := by kernel_rfl
@[simp] theorem ubytes120 : ubytes Try.prog 120 = some 8 := by kernel_rfl
@[simp] theorem uagg120 : uagg Try.prog 120 = some false := by kernel_rfl
@[simp] theorem uslice120 : uslice Try.prog 120 = none := by kernel_rfl
@[simp] theorem uarr120 : uarr Try.prog 120 = none := by kernel_rfl
@[simp] theorem uint120 : uint Try.prog 120 = none := by kernel_rfl
@[simp] theorem ustr120 : ustr Try.prog 120 = false := by kernel_rfl
@[simp] theorem uiface120 : uiface Try.prog 120 = some false := by kernel_rfl
@[simp] theorem uzero120 : uzero Try.prog 120 = some [.nilf] := by kernel_rfl
@[simp] theorem usz121 : usz Try.prog 121 = some 1 := by kernel_rfl
@[simp] theorem ubytes121 : ubytes Try.prog 121 = some 8 := by kernel_rfl
@[simp] theorem uagg121 : uagg Try.prog 121 = some false := by kernel_rfl
@[simp] theorem uslice121 : uslice Try.prog 121 = none := by kernel_rfl
@[simp] theorem uarr121 : uarr Try.prog 121 = none := by kernel_rfl
@[simp] theorem uint121 : uint Try.prog 121 = none := by kernel_rfl
@[simp] theorem ustr121 : ustr Try.prog 121 = false := by kernel_rfl
@[simp] theorem uiface121 : uiface Try.prog 121 = some false := by kernel_rfl
@[simp] theorem uzero121 : uzero Try.prog 121 = some [.nilf] := by kernel_rfl
@[simp] theorem usz122 : usz Try.prog 122 = some 1 := by kernel_rfl
@[simp] theorem ubytes122 : ubytes Try.prog 122 = some 8 := by kernel_rfl
@[simp] theorem uagg122 : uagg Try.prog 122 = some false := by kernel_rfl
@[simp] theorem uslice122 : uslice Try.prog 122 = none := by kernel_rfl
@[simp] theorem uarr122 : uarr Try.prog 122 = none := by kernel_rfl
@[simp] theorem uint122 : uint Try.prog 122 = none := by kernel_rfl
@[simp] theorem ustr122 : ustr Try.prog 122 = false := by kernel_rfl
@[simp] theorem uiface122 : uiface Try.prog 122 = some false := by kernel_rfl
@[simp] theorem uzero122 : uzero Try.prog 122 = some [.nilf] := by kernel_rfl
@[simp] theorem usz123 : usz Try.prog 123 = some 1 := by kernel_rfl
@[simp] theorem ubytes123 : ubytes Try.prog 123 = some 8 := by kernel_rfl
@[simp] theorem uagg123 : uagg Try.prog 123 = some false := by kernel_rfl
@[simp] theorem uslice123 : uslice Try.prog 123 = none := by kernel_rfl
@[simp] theorem uarr123 : uarr Try.prog 123 = none := by kernel_rfl
@[simp] theorem uint123 : uint Try.prog 123 = none := by kernel_rfl
@[simp] theorem ustr123 : ustr Try.prog 123 = false := by kernel_rfl
@[simp] theorem uiface123 : uiface Try.prog 123 = some false := by kernel_rfl
@[simp] theorem uzero123 : uzero Try.prog 123 = some [.nilf] := by kernel_rfl
@[simp] theorem usz124 : usz Try.prog 124 = some 1 := by kernel_rfl
@[simp] theorem ubytes124 : ubytes Try.prog 124 = some 8 := by kernel_rfl
@[simp] theorem uagg124 : uagg Try.prog 124 = some false := by kernel_rfl
@[simp] theorem uslice124 : uslice Try.prog 124 = none := by kernel_rfl
@[simp] theorem uarr124 : uarr Try.prog 124 = none := by kernel_rfl
@[simp] theorem uint124 : uint Try.prog 124 = none := by kernel_rfl
@[simp] theorem ustr124 : ustr Try.prog 124 = false := by kernel_rfl
@[simp] theorem uiface124 : uiface Try.prog 124 = some false := by kernel_rfl
@[simp] theorem uzero124 : uzero Try.prog 124 = some [.nilf] := by kernel_rfl
@[simp] theorem usz125 : usz Try.prog 125 = some 1 := by kernel_rfl
@[simp] theorem ubytes125 : ubytes Try.prog 125 = some 8 := by kernel_rfl
@[simp] theorem uagg125 : uagg Try.prog 125 = some false := by kernel_rfl
@[simp] theorem uslice125 : uslice Try.prog 125 = none := by kernel_rfl
@[simp] theorem uarr125 : uarr Try.prog 125 = none := by kernel_rfl
@[simp] theorem uint125 : uint Try.prog 125 = none := by kernel_rfl
@[simp] theorem ustr125 : ustr Try.prog 125 = false := by kernel_rfl
@[simp] theorem uiface125 : uiface Try.prog 125 = some false := by kernel_rfl
@[simp] theorem uzero125 : uzero Try.prog 125 = some [.nilf] := by kernel_rfl
@[simp] theorem usz126 : usz Try.prog 126 = some 1 := by kernel_rfl
@[simp] theorem ubytes126 : ubytes Try.prog 126 = some 8 := by kernel_rfl
@[simp] theorem uagg126 : uagg Try.prog 126 = some false := by kernel_rfl
@[simp] theorem uslice126 : uslice Try.prog 126 = none := by kernel_rfl
@[simp] theorem uarr126 : uarr Try.prog 126 = none := by kernel_rfl
@[simp] theorem uint126 : uint Try.prog 126 = none := by kernel_rfl
@[simp] theorem ustr126 : ustr Try.prog 126 = false := by kernel_rfl
@[simp] theorem uiface126 : uiface Try.prog 126 = some false := by kernel_rfl
@[simp] theorem uzero126 : uzero Try.prog 126 = some [.nilf] := by kernel_rfl
@[simp] theorem usz127 : usz Try.prog 127 = some 1 := by kernel_rfl
@[simp] theorem ubytes127 : ubytes Try.prog 127 = some 8 := by kernel_rfl
@[simp] theorem uagg127 : uagg Try.prog 127 = some false := by kernel_rfl
@[simp] theorem uslice127 : uslice Try.prog 127 = none := by kernel_rfl
@[simp] theorem uarr127 : uarr Try.prog 127 = none := by kernel_rfl
@[simp] theorem uint127 : uint Try.prog 127 = none := by kernel_rfl
@[simp] theorem ustr127 : ustr Try.prog 127 = false := by kernel_rfl
@[simp] theorem uiface127 : uiface Try.prog 127 = some false := by kernel_rfl
@[simp] theorem uzero127 : uzero Try.prog 127 = some [.nilf] := by kernel_rfl
@[simp] theorem usz128 : usz Try.prog 128 = some 1 := by kernel_rfl
@[simp] theorem ubytes128 : ubytes Try.prog 128 = some 8 := by kernel_rfl
@[simp] theorem uagg128 : uagg Try.prog 128 = some false := by kernel_rfl
@[simp] theorem uslice128 : uslice Try.prog 128 = none := by kernel_rfl
@[simp] theorem uarr128 : uarr Try.prog 128 = none := by kernel_rfl
@[simp] theorem uint128 : uint Try.prog 128 = none := by kernel_rfl
@[simp] theorem ustr128 : ustr Try.prog 128 = false := by kernel_rfl
@[simp] theorem uiface128 : uiface Try.prog 128 = some false := by kernel_rfl
@[simp] theorem uzero128 : uzero Try.prog 128 = some [.nilf] := by kernel_rfl
@[simp] theorem usz129 : usz Try.prog 129 = some 1 := by kernel_rfl
@[simp] theorem ubytes129 : ubytes Try.prog 129 = some 24 := by kernel_rfl
@[simp] theorem uagg129 : uagg Try.prog 129 = some false := by kernel_rfl
@[simp] theorem uslice129 : uslice Try.prog 129 = some 5 := by kernel_rfl
@[simp] theorem uarr129 : uarr Try.prog 129 = none := by kernel_rfl
@[simp] theorem uint129 : uint Try.prog 129 = none := by kernel_rfl
@[simp] theorem ustr129 : ustr Try.prog 129 = false := by kernel_rfl
@[simp] theorem uiface129 : uiface Try.prog 129 = some false := by kernel_rfl
@[simp] theorem uzero129 : uzero Try.prog 129 = some [.nils] := by kernel_rfl
@[simp] theorem usz130 : usz Try.prog 130 = some 4 := by kernel_rfl
@[simp] theorem ubytes130 : ubytes Try.prog 130 = some 64 := by kernel_rfl
@[simp] theorem uagg130 : uagg Try.prog 130 = some true := by kernel_rfl
@[simp] theorem uslice130 : uslice Try.prog 130 = none := by kernel_rfl
@[simp] theorem uarr130 : uarr Try.prog 130 = none := by kernel_rfl
@[simp] theorem uint130 : uint Try.prog 130 = none := by kernel_rfl
@[simp] theorem ustr130 : ustr Try.prog 130 = false := by kernel_rfl
@[simp] theorem uiface130 : uiface Try.prog 130 = some false := by kernel_rfl
@[simp] theorem ufield130_0 : ufield Try.prog 130 0 = some (35, 0) := by kernel_rfl
@[simp] theorem uplace130_0 : uplace Try.prog 130 0 = some (0, 1) := by kernel_rfl
@[simp] theorem ufield130_1 : ufield Try.prog 130 1 = some (3, 1) := by kernel_rfl
@[simp] theorem uplace130_1 : uplace Try.prog 130 1 = some (1, 1) := by kernel_rfl
@[simp] theorem ufield130_2 : ufield Try.prog 130 2 = some (4, 2) := by kernel_rfl
@[simp] theorem uplace130_2 : uplace Try.prog 130 2 = some (2, 1) := by kernel_rfl
@[simp] theorem ufield130_3 : ufield Try.prog 130 3 = some (27, 3) := by kernel_rfl
@[simp] theorem uplace130_3 : uplace Try.prog 130 3 = some (3, 1) := by kernel_rfl
@[simp] theorem uplaces130 : (uplaces Try.prog 130).isSome = true := by kernel_rfl
@[simp] theorem uzero130 : uzero Try.prog 130 = some [.nils, .int .i64 0, .bool false, .nils] := by kernel_rfl
@[simp] theorem usz131 : usz Try.prog 131 = some 4 := by kernel_rfl
@[simp] theorem ubytes131 : ubytes Try.prog 131 = some 64 := by kernel_rfl
@[simp] theorem uagg131 : uagg Try.prog 131 = some true := by kernel_rfl
@[simp] theorem uslice131 : uslice Try.prog 131 = none := by kernel_rfl
@[simp] theorem uarr131 : uarr Try.prog 131 = none := by kernel_rfl
@[simp] theorem uint131 : uint Try.prog 131 = none := by kernel_rfl
@[simp] theorem ustr131 : ustr Try.prog 131 = false := by kernel_rfl
@[simp] theorem uiface131 : uiface Try.prog 131 = some false := by kernel_rfl
@[simp] theorem ufield131_0 : ufield Try.prog 131 0 = some (35, 0) := by kernel_rfl
@[simp] theorem uplace131_0 : uplace Try.prog 131 0 = some (0, 1) := by kernel_rfl
@[simp] theorem ufield131_1 : ufield Try.prog 131 1 = some (3, 1) := by kernel_rfl
@[simp] theorem uplace131_1 : uplace Try.prog 131 1 = some (1, 1) := by kernel_rfl
@[simp] theorem ufield131_2 : ufield Try.prog 131 2 = some (4, 2) := by kernel_rfl
@[simp] theorem uplace131_2 : uplace Try.prog 131 2 = some (2, 1) := by kernel_rfl
@[simp] theorem ufield131_3 : ufield Try.prog 131 3 = some (27, 3) := by kernel_rfl
@[simp] theorem uplace131_3 : uplace Try.prog 131 3 = some (3, 1) := by kernel_rfl
@[simp] theorem uplaces131 : (uplaces Try.prog 131).isSome = true := by kernel_rfl
@[simp] theorem uzero131 : uzero Try.prog 131 = some [.nils, .int .i64 0, .bool false, .nils] := by kernel_rfl
@[simp] theorem usz132 : usz Try.prog 132 = some 1 := by kernel_rfl
@[simp] theorem ubytes132 : ubytes Try.prog 132 = some 8 := by kernel_rfl
@[simp] theorem uagg132 : uagg Try.prog 132 = some false := by kernel_rfl
@[simp] theorem uslice132 : uslice Try.prog 132 = none := by kernel_rfl
@[simp] theorem uarr132 : uarr Try.prog 132 = none := by kernel_rfl
@[simp] theorem uint132 : uint Try.prog 132 = none := by kernel_rfl
@[simp] theorem ustr132 : ustr Try.prog 132 = false := by kernel_rfl
@[simp] theorem uiface132 : uiface Try.prog 132 = some false := by kernel_rfl
@[simp] theorem uzero132 : uzero Try.prog 132 = some [.nilf] := by kernel_rfl
@[simp] theorem usz133 : usz Try.prog 133 = some 1 := by kernel_rfl
@[simp] theorem ubytes133 : ubytes Try.prog 133 = some 8 := by kernel_rfl
@[simp] theorem uagg133 : uagg Try.prog 133 = some false := by kernel_rfl
@[simp] theorem uslice133 : uslice Try.prog 133 = none := by kernel_rfl
@[simp] theorem uarr133 : uarr Try.prog 133 = none := by kernel_rfl
@[simp] theorem uint133 : uint Try.prog 133 = none := by kernel_rfl
@[simp] theorem ustr133 : ustr Try.prog 133 = false := by kernel_rfl
@[simp] theorem uiface133 : uiface Try.prog 133 = some false := by kernel_rfl
@[simp] theorem uzero133 : uzero Try.prog 133 = some [.nilf] := by kernel_rfl
@[simp] theorem usz134 : usz Try.prog 134 = some 1 := by kernel_rfl
@[simp] theorem ubytes134 : ubytes Try.prog 134 = some 8 := by kernel_rfl
@[simp] theorem uagg134 : uagg Try.prog 134 = some false := by kernel_rfl
@[simp] theorem uslice134 : uslice Try.prog 134 = none := by kernel_rfl
@[simp] theorem uarr134 : uarr Try.prog 134 = none := by kernel_rfl
@[simp] theorem uint134 : uint Try.prog 134 = none := by kernel_rfl
@[simp] theorem ustr134 : ustr Try.prog 134 = false := by kernel_rfl
@[simp] theorem uiface134 : uiface Try.prog 134 = some false := by kernel_rfl
@[simp] theorem uzero134 : uzero Try.prog 134 = some [.nilf] := by kernel_rfl
@[simp] theorem usz135 : usz Try.prog 135 = some 1 := by kernel_rfl
@[simp] theorem ubytes135 : ubytes Try.prog 135 = some 8 := by kernel_rfl
@[simp] theorem uagg135 : uagg Try.prog 135 = some false := by kernel_rfl
@[simp] theorem uslice135 : uslice Try.prog 135 = none := by kernel_rfl
@[simp] theorem uarr135 : uarr Try.prog 135 = none := by kernel_rfl
@[simp] theorem uint135 : uint Try.prog 135 = none := by kernel_rfl
@[simp] theorem ustr135 : ustr Try.prog 135 = false := by kernel_rfl
@[simp] theorem uiface135 : uiface Try.prog 135 = some false := by kernel_rfl
@[simp] theorem uzero135 : uzero Try.prog 135 = some [.nilf] := by kernel_rfl
@[simp] theorem usz136 : usz Try.prog 136 = some 1 := by kernel_rfl
@[simp] theorem ubytes136 : ubytes Try.prog 136 = some 8 := by kernel_rfl
@[simp] theorem uagg136 : uagg Try.prog 136 = some false := by kernel_rfl
@[simp] theorem uslice136 : uslice Try.prog 136 = none := by kernel_rfl
@[simp] theorem uarr136 : uarr Try.prog 136 = none := by kernel_rfl
@[simp] theorem uint136 : uint Try.prog 136 = none := by kernel_rfl
@[simp] theorem ustr136 : ustr Try.prog 136 = false := by kernel_rfl
@[simp] theorem uiface136 : uiface Try.prog 136 = some false := by kernel_rfl
@[simp] theorem uzero136 : uzero Try.prog 136 = some [.nilf] := by kernel_rfl
@[simp] theorem usz137 : usz Try.prog 137 = some 1 := by kernel_rfl
@[simp] theorem ubytes137 : ubytes Try.prog 137 = some 8 := by kernel_rfl
@[simp] theorem uagg137 : uagg Try.prog 137 = some false := by kernel_rfl
@[simp] theorem uslice137 : uslice Try.prog 137 = none := by kernel_rfl
@[simp] theorem uarr137 : uarr Try.prog 137 = none := by kernel_rfl
@[simp] theorem uint137 : uint Try.prog 137 = none := by kernel_rfl
@[simp] theorem ustr137 : ustr Try.prog 137 = false := by kernel_rfl
@[simp] theorem uiface137 : uiface Try.prog 137 = some false := by kernel_rfl
@[simp] theorem uzero137 : uzero Try.prog 137 = some [.nilf] := by kernel_rfl
@[simp] theorem usz138 : usz Try.prog 138 = some 1 := by kernel_rfl
@[simp] theorem ubytes138 : ubytes Try.prog 138 = some 8 := by kernel_rfl
@[simp] theorem uagg138 : uagg Try.prog 138 = some false := by kernel_rfl
@[simp] theorem uslice138 : uslice Try.prog 138 = none := by kernel_rfl
@[simp] theorem uarr138 : uarr Try.prog 138 = none := by kernel_rfl
@[simp] theorem uint138 : uint Try.prog 138 = none := by kernel_rfl
@[simp] theorem ustr138 : ustr Try.prog 138 = false := by kernel_rfl
@[simp] theorem uiface138 : uiface Try.prog 138 = some false := by kernel_rfl
@[simp] theorem uzero138 : uzero Try.prog 138 = some [.nilf] := by kernel_rfl
@[simp] theorem usz139 : usz Try.prog 139 = some 1 := by kernel_rfl
@[simp] theorem ubytes139 : ubytes Try.prog 139 = some 8 := by kernel_rfl
@[simp] theorem uagg139 : uagg Try.prog 139 = some false := by kernel_rfl
@[simp] theorem uslice139 : uslice Try.prog 139 = none := by kernel_rfl
@[simp] theorem uarr139 : uarr Try.prog 139 = none := by kernel_rfl
@[simp] theorem uint139 : uint Try.prog 139 = none := by kernel_rfl
@[simp] theorem ustr139 : ustr Try.prog 139 = false := by kernel_rfl
@[simp] theorem uiface139 : uiface Try.prog 139 = some false := by kernel_rfl
@[simp] theorem uzero139 : uzero Try.prog 139 = some [.nilf] := by kernel_rfl
@[simp] theorem usz140 : usz Try.prog 140 = some 1 := by kernel_rfl
@[simp] theorem ubytes140 : ubytes Try.prog 140 = some 8 := by kernel_rfl
@[simp] theorem uagg140 : uagg Try.prog 140 = some false := by kernel_rfl
@[simp] theorem uslice140 : uslice Try.prog 140 = none := by kernel_rfl
@[simp] theorem uarr140 : uarr Try.prog 140 = none := by kernel_rfl
@[simp] theorem uint140 : uint Try.prog 140 = some .i64 := by kernel_rfl
@[simp] theorem ustr140 : ustr Try.prog 140 = false := by kernel_rfl
@[simp] theorem uiface140 : uiface Try.prog 140 = some false := by kernel_rfl
@[simp] theorem uzero140 : uzero Try.prog 140 = some [.int .i64 0] := by kernel_rfl
@[simp] theorem usz141 : usz Try.prog 141 = some 1 := by kernel_rfl
@[simp] theorem ubytes141 : ubytes Try.prog 141 = some 0 := by kernel_rfl
@[simp] theorem uagg141 : uagg Try.prog 141 = some false := by kernel_rfl
@[simp] theorem uslice141 : uslice Try.prog 141 = none := by kernel_rfl
@[simp] theorem uarr141 : uarr Try.prog 141 = none := by kernel_rfl
@[simp] theorem uint141 : uint Try.prog 141 = none := by kernel_rfl
@[simp] theorem ustr141 : ustr Try.prog 141 = false := by kernel_rfl
@[simp] theorem uiface141 : uiface Try.prog 141 = some false := by kernel_rfl
@[simp] theorem usz142 : usz Try.prog 142 = some 1 := by kernel_rfl
@[simp] theorem ubytes142 : ubytes Try.prog 142 = some 8 := by kernel_rfl
@[simp] theorem uagg142 : uagg Try.prog 142 = some false := by kernel_rfl
@[simp] theorem uslice142 : uslice Try.prog 142 = none := by kernel_rfl
@[simp] theorem uarr142 : uarr Try.prog 142 = none := by kernel_rfl
@[simp] theorem uint142 : uint Try.prog 142 = none := by kernel_rfl
@[simp] theorem ustr142 : ustr Try.prog 142 = false := by kernel_rfl
@[simp] theorem uiface142 : uiface Try.prog 142 = some false := by kernel_rfl
@[simp] theorem uzero142 : uzero Try.prog 142 = some [.nilf] := by kernel_rfl
@[simp] theorem usz143 : usz Try.prog 143 = some 1 := by kernel_rfl
@[simp] theorem ubytes143 : ubytes Try.prog 143 = some 8 := by kernel_rfl
@[simp] theorem uagg143 : uagg Try.prog 143 = some false := by kernel_rfl
@[simp] theorem uslice143 : uslice Try.prog 143 = none := by kernel_rfl
@[simp] theorem uarr143 : uarr Try.prog 143 = none := by kernel_rfl
@[simp] theorem uint143 : uint Try.prog 143 = none := by kernel_rfl
@[simp] theorem ustr143 : ustr Try.prog 143 = false := by kernel_rfl
@[simp] theorem uiface143 : uiface Try.prog 143 = some false := by kernel_rfl
@[simp] theorem uzero143 : uzero Try.prog 143 = some [.nilf] := by kernel_rfl
@[simp] theorem usz144 : usz Try.prog 144 = some 1 := by kernel_rfl
@[simp] theorem ubytes144 : ubytes Try.prog 144 = some 8 := by kernel_rfl
@[simp] theorem uagg144 : uagg Try.prog 144 = some false := by kernel_rfl
@[simp] theorem uslice144 : uslice Try.prog 144 = none := by kernel_rfl
@[simp] theorem uarr144 : uarr Try.prog 144 = none := by kernel_rfl
@[simp] theorem uint144 : uint Try.prog 144 = none := by kernel_rfl
@[simp] theorem ustr144 : ustr Try.prog 144 = false := by kernel_rfl
@[simp] theorem uiface144 : uiface Try.prog 144 = some false := by kernel_rfl
@[simp] theorem uzero144 : uzero Try.prog 144 = some [.nilf] := by kernel_rfl
@[simp] theorem usz145 : usz Try.prog 145 = some 1 := by kernel_rfl
@[simp] theorem ubytes145 : ubytes Try.prog 145 = some 0 := by kernel_rfl
@[simp] theorem uagg145 : uagg Try.prog 145 = some false := by kernel_rfl
@[simp] theorem uslice145 : uslice Try.prog 145 = none := by kernel_rfl
@[simp] theorem uarr145 : uarr Try.prog 145 = none := by kernel_rfl
@[simp] theorem uint145 : uint Try.prog 145 = none := by kernel_rfl
@[simp] theorem ustr145 : ustr Try.prog 145 = false := by kernel_rfl
@[simp] theorem uiface145 : uiface Try.prog 145 = some false := by kernel_rfl
@[simp] theorem usz146 : usz Try.prog 146 = some 1 := by kernel_rfl
@[simp] theorem ubytes146 : ubytes Try.prog 146 = some 8 := by kernel_rfl
@[simp] theorem uagg146 : uagg Try.prog 146 = some false := by kernel_rfl
@[simp] theorem uslice146 : uslice Try.prog 146 = none := by kernel_rfl
@[simp] theorem uarr146 : uarr Try.prog 146 = none := by kernel_rfl
@[simp] theorem uint146 : uint Try.prog 146 = none := by kernel_rfl
@[simp] theorem ustr146 : ustr Try.prog 146 = false := by kernel_rfl
@[simp] theorem uiface146 : uiface Try.prog 146 = some false := by kernel_rfl
@[simp] theorem uzero146 : uzero Try.prog 146 = some [.nilf] := by kernel_rfl
@[simp] theorem usz147 : usz Try.prog 147 = some 1 := by kernel_rfl
@[simp] theorem ubytes147 : ubytes Try.prog 147 = some 8 := by kernel_rfl
@[simp] theorem uagg147 : uagg Try.prog 147 = some false := by kernel_rfl
@[simp] theorem uslice147 : uslice Try.prog 147 = none := by kernel_rfl
@[simp] theorem uarr147 : uarr Try.prog 147 = none := by kernel_rfl
@[simp] theorem uint147 : uint Try.prog 147 = none := by kernel_rfl
@[simp] theorem ustr147 : ustr Try.prog 147 = false := by kernel_rfl
@[simp] theorem uiface147 : uiface Try.prog 147 = some false := by kernel_rfl
@[simp] theorem uzero147 : uzero Try.prog 147 = some [.nilf] := by kernel_rfl
@[simp] theorem usz148 : usz Try.prog 148 = some 1 := by kernel_rfl
@[simp] theorem ubytes148 : ubytes Try.prog 148 = some 8 := by kernel_rfl
@[simp] theorem uagg148 : uagg Try.prog 148 = some false := by kernel_rfl
@[simp] theorem uslice148 : uslice Try.prog 148 = none := by kernel_rfl
@[simp] theorem uarr148 : uarr Try.prog 148 = none := by kernel_rfl
@[simp] theorem uint148 : uint Try.prog 148 = none := by kernel_rfl
@[simp] theorem ustr148 : ustr Try.prog 148 = false := by kernel_rfl
@[simp] theorem uiface148 : uiface Try.prog 148 = some false := by kernel_rfl
@[simp] theorem uzero148 : uzero Try.prog 148 = some [.nilf] := by kernel_rfl
@[simp] theorem usz149 : usz Try.prog 149 = some 1 := by kernel_rfl
@[simp] theorem ubytes149 : ubytes Try.prog 149 = some 8 := by kernel_rfl
@[simp] theorem uagg149 : uagg Try.prog 149 = some false := by kernel_rfl
@[simp] theorem uslice149 : uslice Try.prog 149 = none := by kernel_rfl
@[simp] theorem uarr149 : uarr Try.prog 149 = none := by kernel_rfl
@[simp] theorem uint149 : uint Try.prog 149 = none := by kernel_rfl
@[simp] theorem ustr149 : ustr Try.prog 149 = false := by kernel_rfl
@[simp] theorem uiface149 : uiface Try.prog 149 = some false := by kernel_rfl
@[simp] theorem uzero149 : uzero Try.prog 149 = some [.nilf] := by kernel_rfl
@[simp] theorem usz150 : usz Try.prog 150 = some 1 := by kernel_rfl
@[simp] theorem ubytes150 : ubytes Try.prog 150 = some 8 := by kernel_rfl
@[simp] theorem uagg150 : uagg Try.prog 150 = some false := by kernel_rfl
@[simp] theorem uslice150 : uslice Try.prog 150 = none := by kernel_rfl
@[simp] theorem uarr150 : uarr Try.prog 150 = none := by kernel_rfl
@[simp] theorem uint150 : uint Try.prog 150 = none := by kernel_rfl
@[simp] theorem ustr150 : ustr Try.prog 150 = false := by kernel_rfl
@[simp] theorem uiface150 : uiface Try.prog 150 = some false := by kernel_rfl
@[simp] theorem uzero150 : uzero Try.prog 150 = some [.nilf] := by kernel_rfl
@[simp] theorem usz151 : usz Try.prog 151 = some 1 := by kernel_rfl
@[simp] theorem ubytes151 : ubytes Try.prog 151 = some 8 := by kernel_rfl
@[simp] theorem uagg151 : uagg Try.prog 151 = some false := by kernel_rfl
@[simp] theorem uslice151 : uslice Try.prog 151 = none := by kernel_rfl
@[simp] theorem uarr151 : uarr Try.prog 151 = none := by kernel_rfl
@[simp] theorem uint151 : uint Try.prog 151 = some .u64 := by kernel_rfl
@[simp] theorem ustr151 : ustr Try.prog 151 = false := by kernel_rfl
@[simp] theorem uiface151 : uiface Try.prog 151 = some false := by kernel_rfl
@[simp] theorem uzero151 : uzero Try.prog 151 = some [.int .u64 0] := by kernel_rfl
@[simp] theorem usz152 : usz Try.prog 152 = some 1 := by kernel_rfl
@[simp] theorem ubytes152 : ubytes Try.prog 152 = some 4 := by kernel_rfl
@[simp] theorem uagg152 : uagg Try.prog 152 = some false := by kernel_rfl
@[simp] theorem uslice152 : uslice Try.prog 152 = none := by kernel_rfl
@[simp] theorem uarr152 : uarr Try.prog 152 = none := by kernel_rfl
@[simp] theorem uint152 : uint Try.prog 152 = some .u32 := by kernel_rfl
@[simp] theorem ustr152 : ustr Try.prog 152 = false := by kernel_rfl
@[simp] theorem uiface152 : uiface Try.prog 152 = some false := by kernel_rfl
@[simp] theorem uzero152 : uzero Try.prog 152 = some [.int .u32 0] := by kernel_rfl
@[simp] theorem usz153 : usz Try.prog 153 = some 1 := by kernel_rfl
@[simp] theorem ubytes153 : ubytes Try.prog 153 = some 24 := by kernel_rfl
@[simp] theorem uagg153 : uagg Try.prog 153 = some false := by kernel_rfl
@[simp] theorem uslice153 : uslice Try.prog 153 = some 152 := by kernel_rfl
@[simp] theorem uarr153 : uarr Try.prog 153 = none := by kernel_rfl
@[simp] theorem uint153 : uint Try.prog 153 = none := by kernel_rfl
@[simp] theorem ustr153 : ustr Try.prog 153 = false := by kernel_rfl
@[simp] theorem uiface153 : uiface Try.prog 153 = some false := by kernel_rfl
@[simp] theorem uzero153 : uzero Try.prog 153 = some [.nils] := by kernel_rfl
@[simp] theorem usz154 : usz Try.prog 154 = some 1 := by kernel_rfl
@[simp] theorem ubytes154 : ubytes Try.prog 154 = some 8 := by kernel_rfl
@[simp] theorem uagg154 : uagg Try.prog 154 = some false := by kernel_rfl
@[simp] theorem uslice154 : uslice Try.prog 154 = none := by kernel_rfl
@[simp] theorem uarr154 : uarr Try.prog 154 = none := by kernel_rfl
@[simp] theorem uint154 : uint Try.prog 154 = none := by kernel_rfl
@[simp] theorem ustr154 : ustr Try.prog 154 = false := by kernel_rfl
@[simp] theorem uiface154 : uiface Try.prog 154 = some false := by kernel_rfl
@[simp] theorem uzero154 : uzero Try.prog 154 = some [.nilf] := by kernel_rfl
@[simp] theorem usz155 : usz Try.prog 155 = some 1 := by kernel_rfl
@[simp] theorem ubytes155 : ubytes Try.prog 155 = some 8 := by kernel_rfl
@[simp] theorem uagg155 : uagg Try.prog 155 = some false := by kernel_rfl
@[simp] theorem uslice155 : uslice Try.prog 155 = none := by kernel_rfl
@[simp] theorem uarr155 : uarr Try.prog 155 = none := by kernel_rfl
@[simp] theorem uint155 : uint Try.prog 155 = none := by kernel_rfl
@[simp] theorem ustr155 : ustr Try.prog 155 = false := by kernel_rfl
@[simp] theorem uiface155 : uiface Try.prog 155 = some false := by kernel_rfl
@[simp] theorem uzero155 : uzero Try.prog 155 = some [.nilf] := by kernel_rfl
@[simp] theorem usz156 : usz Try.prog 156 = some 64 := by kernel_rfl
@[simp] theorem ubytes156 : ubytes Try.prog 156 = some 256 := by kernel_rfl
@[simp] theorem uagg156 : uagg Try.prog 156 = some true := by kernel_rfl
@[simp] theorem uslice156 : uslice Try.prog 156 = none := by kernel_rfl
@[simp] theorem uarr156 : uarr Try.prog 156 = some (64, 152) := by kernel_rfl
@[simp] theorem uint156 : uint Try.prog 156 = none := by kernel_rfl
@[simp] theorem ustr156 : ustr Try.prog 156 = false := by kernel_rfl
@[simp] theorem uiface156 : uiface Try.prog 156 = some false := by kernel_rfl
@[simp] theorem uplace156 (i : Nat) : uplace Try.prog 156 i = some (i * 1, 1) := by kernel_rfl
@[simp] theorem uplaces156 : (uplaces Try.prog 156).isSome = true := by kernel_rfl
@[simp] theorem uzero156 : uzero Try.prog 156 = some (List.replicate 64 (.int .u32 0 : V)) := by kernel_rfl
@[simp] theorem usz157 : usz Try.prog 157 = some 1 := by kernel_rfl
@[simp] theorem ubytes157 : ubytes Try.prog 157 = some 8 := by kernel_rfl
@[simp] theorem uagg157 : uagg Try.prog 157 = some false := by kernel_rfl
@[simp] theorem uslice157 : uslice Try.prog 157 = none := by kernel_rfl
@[simp] theorem uarr157 : uarr Try.prog 157 = none := by kernel_rfl
@[simp] theorem uint157 : uint Try.prog 157 = none := by kernel_rfl
@[simp] theorem ustr157 : ustr Try.prog 157 = false := by kernel_rfl
@[simp] theorem uiface157 : uiface Try.prog 157 = some false := by kernel_rfl
@[simp] theorem uzero157 : uzero Try.prog 157 = some [.nilf] := by kernel_rfl
@[simp] theorem usz158 : usz Try.prog 158 = some 1 := by kernel_rfl
@[simp] theorem ubytes158 : ubytes Try.prog 158 = some 8 := by kernel_rfl
@[simp] theorem uagg158 : uagg Try.prog 158 = some false := by kernel_rfl
@[simp] theorem uslice158 : uslice Try.prog 158 = none := by kernel_rfl
@[simp] theorem uarr158 : uarr Try.prog 158 = none := by kernel_rfl
@[simp] theorem uint158 : uint Try.prog 158 = none := by kernel_rfl
@[simp] theorem ustr158 : ustr Try.prog 158 = false := by kernel_rfl
@[simp] theorem uiface158 : uiface Try.prog 158 = some false := by kernel_rfl
@[simp] theorem uzero158 : uzero Try.prog 158 = some [.nilf] := by kernel_rfl
@[simp] theorem usz159 : usz Try.prog 159 = some 4 := by kernel_rfl
@[simp] theorem ubytes159 : ubytes Try.prog 159 = some 40 := by kernel_rfl
@[simp] theorem uagg159 : uagg Try.prog 159 = some true := by kernel_rfl
@[simp] theorem uslice159 : uslice Try.prog 159 = none := by kernel_rfl
@[simp] theorem uarr159 : uarr Try.prog 159 = none := by kernel_rfl
@[simp] theorem uint159 : uint Try.prog 159 = none := by kernel_rfl
@[simp] theorem ustr159 : ustr Try.prog 159 = false := by kernel_rfl
@[simp] theorem uiface159 : uiface Try.prog 159 = some false := by kernel_rfl
@[simp] theorem ufield159_0 : ufield Try.prog 159 0 = some (17, 0) := by kernel_rfl
@[simp] theorem uplace159_0 : uplace Try.prog 159 0 = some (0, 1) := by kernel_rfl
@[simp] theorem ufield159_1 : ufield Try.prog 159 1 = some (17, 1) := by kernel_rfl
@[simp] theorem uplace159_1 : uplace Try.prog 159 1 = some (1, 1) := by kernel_rfl
@[simp] theorem ufield159_2 : ufield Try.prog 159 2 = some (17, 2) := by kernel_rfl
@[simp] theorem uplace159_2 : uplace Try.prog 159 2 = some (2, 1) := by kernel_rfl
@[simp] theorem ufield159_3 : ufield Try.prog 159 3 = some (9, 3) := by kernel_rfl
@[simp] theorem uplace159_3 : uplace Try.prog 159 3 = some (3, 1) := by kernel_rfl
@[simp] theorem uplaces159 : (uplaces Try.prog 159).isSome = true := by kernel_rfl
@[simp] theorem uzero159 : uzero Try.prog 159 = some [.nilp, .nilp, .nilp, .str []] := by kernel_rfl
@[simp] theorem usz160 : usz Try.prog 160 = some 4 := by kernel_rfl
@[simp] theorem ubytes160 : ubytes Try.prog 160 = some 40 := by kernel_rfl
@[simp] theorem uagg160 : uagg Try.prog 160 = some true := by kernel_rfl
@[simp] theorem uslice160 : uslice Try.prog 160 = none := by kernel_rfl
@[simp] theorem uarr160 : uarr Try.prog 160 = none := by kernel_rfl
@[simp] theorem uint160 : uint Try.prog 160 = none := by kernel_rfl
@[simp] theorem ustr160 : ustr Try.prog 160 = false := by kernel_rfl
@[simp] theorem uiface160 : uiface Try.prog 160 = some false := by kernel_rfl
@[simp] theorem ufield160_0 : ufield Try.prog 160 0 = some (17, 0) := by kernel_rfl
@[simp] theorem uplace160_0 : uplace Try.prog 160 0 = some (0, 1) := by kernel_rfl
@[simp] theorem ufield160_1 : ufield Try.prog 160 1 = some (17, 1) := by kernel_rfl
@[simp] theorem uplace160_1 : uplace Try.prog 160 1 = some (1, 1) := by kernel_rfl
@[simp] theorem ufield160_2 : ufield Try.prog 160 2 = some (17, 2) := by kernel_rfl
@[simp] theorem uplace160_2 : uplace Try.prog 160 2 = some (2, 1) := by kernel_rfl
@[simp] theorem ufield160_3 : ufield Try.prog 160 3 = some (9, 3) := by kernel_rfl
@[simp] theorem uplace160_3 : uplace Try.prog 160 3 = some (3, 1) := by kernel_rfl
@[simp] theorem uplaces160 : (uplaces Try.prog 160).isSome = true := by kernel_rfl
@[simp] theorem uzero160 : uzero Try.prog 160 = some [.nilp, .nilp, .nilp, .str []] := by kernel_rfl
@[simp] theorem usz161 : usz Try.prog 161 = some 0 := by kernel_rfl
@[simp] theorem ubytes161 : ubytes Try.prog 161 = some 0 := by kernel_rfl
@[simp] theorem uagg161 : uagg Try.prog 161 = some true := by kernel_rfl
@[simp] theorem uslice161 : uslice Try.prog 161 = none := by kernel_rfl
@[simp] theorem uarr161 : uarr Try.prog 161 = some (0, 16) := by kernel_rfl
@[simp] theorem uint161 : uint Try.prog 161 = none := by kernel_rfl
@[simp] theorem ustr161 : ustr Try.prog 161 = false := by kernel_rfl
@[simp] theorem uiface161 : uiface Try.prog 161 = some false := by kernel_rfl
@[simp] theorem uplace161 (i : Nat) : uplace Try.prog 161 i = some (i * 1, 1) := by kernel_rfl
@[simp] theorem uplaces161 : (uplaces Try.prog 161).isSome = true := by kernel_rfl
@[simp] theorem uzero161 : uzero Try.prog 161 = some [] := by kernel_rfl
@[simp] theorem usz162 : usz Try.prog 162 = some 0 := by kernel_rfl
@[simp] theorem ubytes162 : ubytes Try.prog 162 = some 0 := by kernel_rfl
@[simp] theorem uagg162 : uagg Try.prog 162 = some true := by kernel_rfl
@[simp] theorem uslice162 : uslice Try.prog 162 = none := by kernel_rfl
@[simp] theorem uarr162 : uarr Try.prog 162 = none := by kernel_rfl
@[simp] theorem uint162 : uint Try.prog 162 = none := by kernel_rfl
@[simp] theorem ustr162 : ustr Try.prog 162 = false := by kernel_rfl
@[simp] theorem uiface162 : uiface Try.prog 162 = some false := by kernel_rfl
@[simp] theorem ufield162_0 : ufield Try.prog 162 0 = some (161, 0) := by kernel_rfl
@[simp] theorem uplace162_0 : uplace Try.prog 162 0 = some (0, 0) := by kernel_rfl
@[simp] theorem uplaces162 : (uplaces Try.prog 162).isSome = true := by kernel_rfl
@[simp] theorem uzero162 : uzero Try.prog 162 = some [] := by kernel_rfl
@[simp] theorem usz163 : usz Try.prog 163 = some 0 := by kernel_rfl
@[simp] theorem ubytes163 : ubytes Try.prog 163 = some 0 := by kernel_rfl
@[simp] theorem uagg163 : uagg Try.prog 163 = some true := by kernel_rfl
@[simp] theorem uslice163 : uslice Try.prog 163 = none := by kernel_rfl
@[simp] theorem uarr163 : uarr Try.prog 163 = none := by kernel_rfl
@[simp] theorem uint163 : uint Try.prog 163 = none := by kernel_rfl
@[simp] theorem ustr163 : ustr Try.prog 163 = false := by kernel_rfl
@[simp] theorem uiface163 : uiface Try.prog 163 = some false := by kernel_rfl
@[simp] theorem ufield163_0 : ufield Try.prog 163 0 = some (161, 0) := by kernel_rfl
@[simp] theorem uplace163_0 : uplace Try.prog 163 0 = some (0, 0) := by kernel_rfl
@[simp] theorem uplaces163 : (uplaces Try.prog 163).isSome = true := by kernel_rfl
@[simp] theorem uzero163 : uzero Try.prog 163 = some [] := by kernel_rfl
@[simp] theorem usz164 : usz Try.prog 164 = some 1 := by kernel_rfl
@[simp] theorem ubytes164 : ubytes Try.prog 164 = some 8 := by kernel_rfl
@[simp] theorem uagg164 : uagg Try.prog 164 = some false := by kernel_rfl
@[simp] theorem uslice164 : uslice Try.prog 164 = none := by kernel_rfl
@[simp] theorem uarr164 : uarr Try.prog 164 = none := by kernel_rfl
@[simp] theorem uint164 : uint Try.prog 164 = none := by kernel_rfl
@[simp] theorem ustr164 : ustr Try.prog 164 = false := by kernel_rfl
@[simp] theorem uiface164 : uiface Try.prog 164 = some false := by kernel_rfl
@[simp] theorem uzero164 : uzero Try.prog 164 = some [.nilf] := by kernel_rfl
@[simp] theorem usz165 : usz Try.prog 165 = some 1 := by kernel_rfl
@[simp] theorem ubytes165 : ubytes Try.prog 165 = some 1 := by kernel_rfl
@[simp] theorem uagg165 : uagg Try.prog 165 = some false := by kernel_rfl
@[simp] theorem uslice165 : uslice Try.prog 165 = none := by kernel_rfl
@[simp] theorem uarr165 : uarr Try.prog 165 = none := by kernel_rfl
@[simp] theorem uint165 : uint Try.prog 165 = some .u8 := by kernel_rfl
@[simp] theorem ustr165 : ustr Try.prog 165 = false := by kernel_rfl
@[simp] theorem uiface165 : uiface Try.prog 165 = some false := by kernel_rfl
@[simp] theorem uzero165 : uzero Try.prog 165 = some [.int .u8 0] := by kernel_rfl
@[simp] theorem usz166 : usz Try.prog 166 = some 1 := by kernel_rfl
@[simp] theorem ubytes166 : ubytes Try.prog 166 = some 1 := by kernel_rfl
@[simp] theorem uagg166 : uagg Try.prog 166 = some false := by kernel_rfl
@[simp] theorem uslice166 : uslice Try.prog 166 = none := by kernel_rfl
@[simp] theorem uarr166 : uarr Try.prog 166 = none := by kernel_rfl
@[simp] theorem uint166 : uint Try.prog 166 = some .u8 := by kernel_rfl
@[simp] theorem ustr166 : ustr Try.prog 166 = false := by kernel_rfl
@[simp] theorem uiface166 : uiface Try.prog 166 = some false := by kernel_rfl
@[simp] theorem uzero166 : uzero Try.prog 166 = some [.int .u8 0] := by kernel_rfl
@[simp] theorem usz167 : usz Try.prog 167 = some 1 := by kernel_rfl
@[simp] theorem ubytes167 : ubytes Try.prog 167 = some 8 := by kernel_rfl
@[simp] theorem uagg167 : uagg Try.prog 167 = some false := by kernel_rfl
@[simp] theorem uslice167 : uslice Try.prog 167 = none := by kernel_rfl
@[simp] theorem uarr167 : uarr Try.prog 167 = none := by kernel_rfl
@[simp] theorem uint167 : uint Try.prog 167 = none := by kernel_rfl
@[simp] theorem ustr167 : ustr Try.prog 167 = false := by kernel_rfl
@[simp] theorem uiface167 : uiface Try.prog 167 = some false := by kernel_rfl
@[simp] theorem uzero167 : uzero Try.prog 167 = some [.nilf] := by kernel_rfl
@[simp] theorem usz168 : usz Try.prog 168 = some 1 := by kernel_rfl
@[simp] theorem ubytes168 : ubytes Try.prog 168 = some 8 := by kernel_rfl
@[simp] theorem uagg168 : uagg Try.prog 168 = some false := by kernel_rfl
@[simp] theorem uslice168 : uslice Try.prog 168 = none := by kernel_rfl
@[simp] theorem uarr168 : uarr Try.prog 168 = none := by kernel_rfl
@[simp] theorem uint168 : uint Try.prog 168 = none := by kernel_rfl
@[simp] theorem ustr168 : ustr Try.prog 168 = false := by kernel_rfl
@[simp] theorem uiface168 : uiface Try.prog 168 = some false := by kernel_rfl
@[simp] theorem uptr168 : uptr Try.prog 168 = true := by kernel_rfl
@[simp] theorem uzero168 : uzero Try.prog 168 = some [.nilp] := by kernel_rfl
@[simp] theorem usz169 : usz Try.prog 169 = some 1 := by kernel_rfl
@[simp] theorem ubytes169 : ubytes Try.prog 169 = some 4 := by kernel_rfl
@[simp] theorem uagg169 : uagg Try.prog 169 = some false := by kernel_rfl
@[simp] theorem uslice169 : uslice Try.prog 169 = none := by kernel_rfl
@[simp] theorem uarr169 : uarr Try.prog 169 = none := by kernel_rfl
@[simp] theorem uint169 : uint Try.prog 169 = some .i32 := by kernel_rfl
@[simp] theorem ustr169 : ustr Try.prog 169 = false := by kernel_rfl
@[simp] theorem uiface169 : uiface Try.prog 169 = some false := by kernel_rfl
@[simp] theorem uzero169 : uzero Try.prog 169 = some [.int .i32 0] := by kernel_rfl
@[simp] theorem usz170 : usz Try.prog 170 = some 1 := by kernel_rfl
@[simp] theorem ubytes170 : ubytes Try.prog 170 = some 4 := by kernel_rfl
@[simp] theorem uagg170 : uagg Try.prog 170 = some false := by kernel_rfl
@[simp] theorem uslice170 : uslice Try.prog 170 = none := by kernel_rfl
@[simp] theorem uarr170 : uarr Try.prog 170 = none := by kernel_rfl
@[simp] theorem uint170 : uint Try.prog 170 = some .i32 := by kernel_rfl
@[simp] theorem ustr170 : ustr Try.prog 170 = false := by kernel_rfl
@[simp] theorem uiface170 : uiface Try.prog 170 = some false := by kernel_rfl
@[simp] theorem uzero170 : uzero Try.prog 170 = some [.int .i32 0] := by kernel_rfl
@[simp] theorem usz171 : usz Try.prog 171 = some 11 := by kernel_rfl
@[simp] theorem ubytes171 : ubytes Try.prog 171 = some 48 := by kernel_rfl
@[simp] theorem uagg171 : uagg Try.prog 171 = some true := by kernel_rfl
@[simp] theorem uslice171 : uslice Try.prog 171 = none := by kernel_rfl
@[simp] theorem uarr171 : uarr Try.prog 171 = none := by kernel_rfl
@[simp] theorem uint171 : uint Try.prog 171 = none := by kernel_rfl
@[simp] theorem ustr171 : ustr Try.prog 171 = false := by kernel_rfl
@[simp] theorem uiface171 : uiface Try.prog 171 = some false := by kernel_rfl
@[simp] theorem ufield171_0 : ufield Try.prog 171 0 = some (12, 0) := by kernel_rfl
@[simp] theorem uplace171_0 : uplace Try.prog 171 0 = some (0, 1) := by kernel_rfl
@[simp] theorem ufield171_1 : ufield Try.prog 171 1 = some (12, 1) := by kernel_rfl
@[simp] theorem uplace171_1 : uplace Try.prog 171 1 = some (1, 1) := by kernel_rfl
@[simp] theorem ufield171_2 : ufield Try.prog 171 2 = some (152, 2) := by kernel_rfl
@[simp] theorem uplace171_2 : uplace Try.prog 171 2 = some (2, 1) := by kernel_rfl
@[simp] theorem ufield171_3 : ufield Try.prog 171 3 = some (165, 3) := by kernel_rfl
@[simp] theorem uplace171_3 : uplace Try.prog 171 3 = some (3, 1) := by kernel_rfl
@[simp] theorem ufield171_4 : ufield Try.prog 171 4 = some (5, 4) := by kernel_rfl
@[simp] theorem uplace171_4 : uplace Try.prog 171 4 = some (4, 1) := by kernel_rfl
@[simp] theorem ufield171_5 : ufield Try.prog 171 5 = some (5, 5) := by kernel_rfl
@[simp] theorem uplace171_5 : uplace Try.prog 171 5 = some (5, 1) := by kernel_rfl
@[simp] theorem ufield171_6 : ufield Try.prog 171 6 = some (166, 6) := by kernel_rfl
@[simp] theorem uplace171_6 : uplace Try.prog 171 6 = some (6, 1) := by kernel_rfl
@[simp] theorem ufield171_7 : ufield Try.prog 171 7 = some (167, 7) := by kernel_rfl
@[simp] theorem uplace171_7 : uplace Try.prog 171 7 = some (7, 1) := by kernel_rfl
@[simp] theorem ufield171_8 : ufield Try.prog 171 8 = some (168, 8) := by kernel_rfl
@[simp] theorem uplace171_8 : uplace Try.prog 171 8 = some (8, 1) := by kernel_rfl
@[simp] theorem ufield171_9 : ufield Try.prog 171 9 = some (169, 9) := by kernel_rfl
@[simp] theorem uplace171_9 : uplace Try.prog 171 9 = some (9, 1) := by kernel_rfl
@[simp] theorem ufield171_10 : ufield Try.prog 171 10 = some (170, 10) := by kernel_rfl
@[simp] theorem uplace171_10 : uplace Try.prog 171 10 = some (10, 1) := by kernel_rfl
@[simp] theorem uplaces171 : (uplaces Try.prog 171).isSome = true := by kernel_rfl
@[simp] theorem uzero171 : uzero Try.prog 171 = some [.int .u64 0, .int .u64 0, .int .u32 0, .int .u8 0, .int .u8 0, .int .u8 0, .int .u8 0, .nilf, .nilp, .int .i32 0, .int .i32 0] := by kernel_rfl
@[simp] theorem usz172 : usz Try.prog 172 = some 11 := by kernel_rfl
@[simp] theorem ubytes172 : ubytes Try.prog 172 = some 48 := by kernel_rfl
@[simp] theorem uagg172 : uagg Try.prog 172 = some true := by kernel_rfl
@[simp] theorem uslice172 : uslice Try.prog 172 = none := by kernel_rfl
@[simp] theorem uarr172 : uarr Try.prog 172 = none := by kernel_rfl
@[simp] theorem uint172 : uint Try.prog 172 = none := by kernel_rfl
@[simp] theorem ustr172 : ustr Try.prog 172 = false := by kernel_rfl
@[simp] theorem uiface172 : uiface Try.prog 172 = some false := by kernel_rfl
@[simp] theorem ufield172_0 : ufield Try.prog 172 0 = some (12, 0) := by kernel_rfl
@[simp] theorem uplace172_0 : uplace Try.prog 172 0 = some (0, 1) := by kernel_rfl
@[simp] theorem ufield172_1 : ufield Try.prog 172 1 = some (12, 1) := by kernel_rfl
@[simp] theorem uplace172_1 : uplace Try.prog 172 1 = some (1, 1) := by kernel_rfl
@[simp] theorem ufield172_2 : ufield Try.prog 172 2 = some (152, 2) := by kernel_rfl
@[simp] theorem uplace172_2 : uplace Try.prog 172 2 = some (2, 1) := by kernel_rfl
@[simp] theorem ufield172_3 : ufield Try.prog 172 3 = some (165, 3) := by kernel_rfl
@[simp] theorem uplace172_3 : uplace Try.prog 172 3 = some (3, 1) := by kernel_rfl
@[simp] theorem ufield172_4 : ufield Try.prog 172 4 = some (5, 4) := by kernel_rfl
@[simp] theorem uplace172_4 : uplace Try.prog 172 4 = some (4, 1) := by kernel_rfl
@[simp] theorem ufield172_5 : ufield Try.prog 172 5 = some (5, 5) := by kernel_rfl
@[simp] theorem uplace172_5 : uplace Try.prog 172 5 = some (5, 1) := by kernel_rfl
@[simp] theorem ufield172_6 : ufield Try.prog 172 6 = some (166, 6) := by kernel_rfl
@[simp] theorem uplace172_6 : uplace Try.prog 172 6 = some (6, 1) := by kernel_rfl
@[simp] theorem ufield172_7 : ufield Try.prog 172 7 = some (167, 7) := by kernel_rfl
@[simp] theorem uplace172_7 : uplace Try.prog 172 7 = some (7, 1) := by kernel_rfl
@[simp] theorem ufield172_8 : ufield Try.prog 172 8 = some (168, 8) := by kernel_rfl
@[simp] theorem uplace172_8 : uplace Try.prog 172 8 = some (8, 1) := by kernel_rfl
@[simp] theorem ufield172_9 : ufield Try.prog 172 9 = some (169, 9) := by kernel_rfl
@[simp] theorem uplace172_9 : uplace Try.prog 172 9 = some (9, 1) := by kernel_rfl
@[simp] theorem ufield172_10 : ufield Try.prog 172 10 = some (170, 10) := by kernel_rfl
@[simp] theorem uplace172_10 : uplace Try.prog 172 10 = some (10, 1) := by kernel_rfl
@[simp] theorem uplaces172 : (uplaces Try.prog 172).isSome = true := by kernel_rfl
@[simp] theorem uzero172 : uzero Try.prog 172 = some [.int .u64 0, .int .u64 0, .int .u32 0, .int .u8 0, .int .u8 0, .int .u8 0, .int .u8 0, .nilf, .nilp, .int .i32 0, .int .i32 0] := by kernel_rfl
@[simp] theorem usz173 : usz Try.prog 173 = some 1 := by kernel_rfl
@[simp] theorem ubytes173 : ubytes Try.prog 173 = some 8 := by kernel_rfl
@[simp] theorem uagg173 : uagg Try.prog 173 = some false := by kernel_rfl
@[simp] theorem uslice173 : uslice Try.prog 173 = none := by kernel_rfl
@[simp] theorem uarr173 : uarr Try.prog 173 = none := by kernel_rfl
@[simp] theorem uint173 : uint Try.prog 173 = none := by kernel_rfl
@[simp] theorem ustr173 : ustr Try.prog 173 = false := by kernel_rfl
@[simp] theorem uiface173 : uiface Try.prog 173 = some false := by kernel_rfl
@[simp] theorem uzero173 : uzero Try.prog 173 = some [.nilp] := by kernel_rfl

end Go.Proofs.Ytjlifjmjnhdcmaa
