/-
  VALUE SEMANTICS: what the program's type table says, type by type. Printed by gentab.py.
  Conditions: none.
-/
import Derived.Test.YthcdofbmmibgjaaGc
import Derived.Test.YthcdofbmmibgjaaRows
namespace Go.Proofs.Ythcdofbmmibgjaa
open Go.VS

@[simp] theorem usz0 : usz Try.prog 0 = some 1 := by kernel_rfl
@[simp] theorem ubytes0 : ubytes Try.prog 0 = some 0 := by kernel_rfl
@[simp] theorem uagg0 : uagg Try.prog 0 = some false := by kernel_rfl
@[simp] theorem uslice0 : uslice Try.prog 0 = none := by kernel_rfl
@[simp] theorem uarr0 : uarr Try.prog 0 = none := by kernel_rfl
@[simp] theorem uint0 : uint Try.prog 0 = none := by kernel_rfl
@[simp] theorem ustr0 : ustr Try.prog 0 = false := by kernel_rfl
@[simp] theorem uiface0 : uiface Try.prog 0 = some false := by kernel_rfl
@[simp] theorem usz1 : usz Try.prog 1 = some 1 := by kernel_rfl
@[simp] theorem ubytes1 : ubytes Try.prog 1 = some 8 := by kernel_rfl
@[simp] theorem uagg1 : uagg Try.prog 1 = some false := by kernel_rfl
@[simp] theorem uslice1 : uslice Try.prog 1 = none := by kernel_rfl
@[simp] theorem uarr1 : uarr Try.prog 1 = none := by kernel_rfl
@[simp] theorem uint1 : uint Try.prog 1 = none := by kernel_rfl
@[simp] theorem ustr1 : ustr Try.prog 1 = false := by kernel_rfl
@[simp] theorem uiface1 : uiface Try.prog 1 = some false := by kernel_rfl
@[simp] theorem uzero1 : uzero Try.prog 1 = some [.nilf] := by kernel_rfl
@[simp] theorem usz2 : usz Try.prog 2 = some 1 := by kernel_rfl
@[simp] theorem ubytes2 : ubytes Try.prog 2 = some 8 := by kernel_rfl
@[simp] theorem uagg2 : uagg Try.prog 2 = some false := by kernel_rfl
@[simp] theorem uslice2 : uslice Try.prog 2 = none := by kernel_rfl
@[simp] theorem uarr2 : uarr Try.prog 2 = none := by kernel_rfl
@[simp] theorem uint2 : uint Try.prog 2 = some .i64 := by kernel_rfl
@[simp] theorem ustr2 : ustr Try.prog 2 = false := by kernel_rfl
@[simp] theorem uiface2 : uiface Try.prog 2 = some false := by kernel_rfl
@[simp] theorem uzero2 : uzero Try.prog 2 = some [.int .i64 0] := by kernel_rfl
@[simp] theorem usz3 : usz Try.prog 3 = some 1 := by kernel_rfl
@[simp] theorem ubytes3 : ubytes Try.prog 3 = some 8 := by kernel_rfl
@[simp] theorem uagg3 : uagg Try.prog 3 = some false := by kernel_rfl
@[simp] theorem uslice3 : uslice Try.prog 3 = none := by kernel_rfl
@[simp] theorem uarr3 : uarr Try.prog 3 = none := by kernel_rfl
@[simp] theorem uint3 : uint Try.prog 3 = some .i64 := by kernel_rfl
@[simp] theorem ustr3 : ustr Try.prog 3 = false := by kernel_rfl
@[simp] theorem uiface3 : uiface Try.prog 3 = some false := by kernel_rfl
@[simp] theorem uzero3 : uzero Try.prog 3 = some [.int .i64 0] := by kernel_rfl
@[simp] theorem usz4 : usz Try.prog 4 = some 1 := by kernel_rfl
@[simp] theorem ubytes4 : ubytes Try.prog 4 = some 1 := by kernel_rfl
@[simp] theorem uagg4 : uagg Try.prog 4 = some false := by kernel_rfl
@[simp] theorem uslice4 : uslice Try.prog 4 = none := by kernel_rfl
@[simp] theorem uarr4 : uarr Try.prog 4 = none := by kernel_rfl
@[simp] theorem uint4 : uint Try.prog 4 = none := by kernel_rfl
@[simp] theorem ustr4 : ustr Try.prog 4 = false := by kernel_rfl
@[simp] theorem uiface4 : uiface Try.prog 4 = some false := by kernel_rfl
@[simp] theorem ubool4 : ubool Try.prog 4 = true := by kernel_rfl
@[simp] theorem uzero4 : uzero Try.prog 4 = some [.bool false] := by kernel_rfl
@[simp] theorem usz5 : usz Try.prog 5 = some 1 := by kernel_rfl
@[simp] theorem ubytes5 : ubytes Try.prog 5 = some 1 := by kernel_rfl
@[simp] theorem uagg5 : uagg Try.prog 5 = some false := by kernel_rfl
@[simp] theorem uslice5 : uslice Try.prog 5 = none := by kernel_rfl
@[simp] theorem uarr5 : uarr Try.prog 5 = none := by kernel_rfl
@[simp] theorem uint5 : uint Try.prog 5 = some .u8 := by kernel_rfl
@[simp] theorem ustr5 : ustr Try.prog 5 = false := by kernel_rfl
@[simp] theorem uiface5 : uiface Try.prog 5 = some false := by kernel_rfl
@[simp] theorem uzero5 : uzero Try.prog 5 = some [.int .u8 0] := by kernel_rfl
@[simp] theorem usz6 : usz Try.prog 6 = some 1 := by kernel_rfl
@[simp] theorem ubytes6 : ubytes Try.prog 6 = some 1 := by kernel_rfl
@[simp] theorem uagg6 : uagg Try.prog 6 = some false := by kernel_rfl
@[simp] theorem uslice6 : uslice Try.prog 6 = none := by kernel_rfl
@[simp] theorem uarr6 : uarr Try.prog 6 = none := by kernel_rfl
@[simp] theorem uint6 : uint Try.prog 6 = some .u8 := by kernel_rfl
@[simp] theorem ustr6 : ustr Try.prog 6 = false := by kernel_rfl
@[simp] theorem uiface6 : uiface Try.prog 6 = some false := by kernel_rfl
@[simp] theorem uzero6 : uzero Try.prog 6 = some [.int .u8 0] := by kernel_rfl
@[simp] theorem usz7 : usz Try.prog 7 = some 4 := by kernel_rfl
@[simp] theorem ubytes7 : ubytes Try.prog 7 = some 24 := by kernel_rfl
@[simp] theorem uagg7 : uagg Try.prog 7 = some true := by kernel_rfl
@[simp] theorem uslice7 : uslice Try.prog 7 = none := by kernel_rfl
@[simp] theorem uarr7 : uarr Try.prog 7 = none := by kernel_rfl
@[simp] theorem uint7 : uint Try.prog 7 = none := by kernel_rfl
@[simp] theorem ustr7 : ustr Try.prog 7 = false := by kernel_rfl
@[simp] theorem uiface7 : uiface Try.prog 7 = some false := by kernel_rfl
@[simp] theorem ufield7_0 : ufield Try.prog 7 0 = some (2, 0) := by kernel_rfl
@[simp] theorem uplace7_0 : uplace Try.prog 7 0 = some (0, 1) := by kernel_rfl
@[simp] theorem ufield7_1 : ufield Try.prog 7 1 = some (3, 1) := by kernel_rfl
@[simp] theorem uplace7_1 : uplace Try.prog 7 1 = some (1, 1) := by kernel_rfl
@[simp] theorem ufield7_2 : ufield Try.prog 7 2 = some (4, 2) := by kernel_rfl
@[simp] theorem uplace7_2 : uplace Try.prog 7 2 = some (2, 1) := by kernel_rfl
@[simp] theorem ufield7_3 : ufield Try.prog 7 3 = some (6, 3) := by kernel_rfl
@[simp] theorem uplace7_3 : uplace Try.prog 7 3 = some (3, 1) := by kernel_rfl
@[simp] theorem uplaces7 : (uplaces Try.prog 7).isSome = true := by kernel_rfl
@[simp] theorem uzero7 : uzero Try.prog 7 = some [.int .i64 0, .int .i64 0, .bool false, .int .u8 0] := by kernel_rfl
@[simp] theorem usz8 : usz Try.prog 8 = some 4 := by kernel_rfl
@[simp] theorem ubytes8 : ubytes Try.prog 8 = some 24 := by kernel_rfl
@[simp] theorem uagg8 : uagg Try.prog 8 = some true := by kernel_rfl
@[simp] theorem uslice8 : uslice Try.prog 8 = none := by kernel_rfl
@[simp] theorem uarr8 : uarr Try.prog 8 = none := by kernel_rfl
@[simp] theorem uint8 : uint Try.prog 8 = none := by kernel_rfl
@[simp] theorem ustr8 : ustr Try.prog 8 = false := by kernel_rfl
@[simp] theorem uiface8 : uiface Try.prog 8 = some false := by kernel_rfl
@[simp] theorem ufield8_0 : ufield Try.prog 8 0 = some (2, 0) := by kernel_rfl
@[simp] theorem uplace8_0 : uplace Try.prog 8 0 = some (0, 1) := by kernel_rfl
@[simp] theorem ufield8_1 : ufield Try.prog 8 1 = some (3, 1) := by kernel_rfl
@[simp] theorem uplace8_1 : uplace Try.prog 8 1 = some (1, 1) := by kernel_rfl
@[simp] theorem ufield8_2 : ufield Try.prog 8 2 = some (4, 2) := by kernel_rfl
@[simp] theorem uplace8_2 : uplace Try.prog 8 2 = some (2, 1) := by kernel_rfl
@[simp] theorem ufield8_3 : ufield Try.prog 8 3 = some (6, 3) := by kernel_rfl
@[simp] theorem uplace8_3 : uplace Try.prog 8 3 = some (3, 1) := by kernel_rfl
@[simp] theorem uplaces8 : (uplaces Try.prog 8).isSome = true := by kernel_rfl
@[simp] theorem uzero8 : uzero Try.prog 8 = some [.int .i64 0, .int .i64 0, .bool false, .int .u8 0] := by kernel_rfl
@[simp] theorem usz9 : usz Try.prog 9 = some 1 := by kernel_rfl
@[simp] theorem ubytes9 : ubytes Try.prog 9 = some 16 := by kernel_rfl
@[simp] theorem uagg9 : uagg Try.prog 9 = some false := by kernel_rfl
@[simp] theorem uslice9 : uslice Try.prog 9 = none := by kernel_rfl
@[simp] theorem uarr9 : uarr Try.prog 9 = none := by kernel_rfl
@[simp] theorem uint9 : uint Try.prog 9 = none := by kernel_rfl
@[simp] theorem ustr9 : ustr Try.prog 9 = true := by kernel_rfl
@[simp] theorem uiface9 : uiface Try.prog 9 = some false := by kernel_rfl
@[simp] theorem uzero9 : uzero Try.prog 9 = some [.str []] := by kernel_rfl
@[simp] theorem usz10 : usz Try.prog 10 = some 1 := by kernel_rfl
@[simp] theorem ubytes10 : ubytes Try.prog 10 = some 16 := by kernel_rfl
@[simp] theorem uagg10 : uagg Try.prog 10 = some false := by kernel_rfl
@[simp] theorem uslice10 : uslice Try.prog 10 = none := by kernel_rfl
@[simp] theorem uarr10 : uarr Try.prog 10 = none := by kernel_rfl
@[simp] theorem uint10 : uint Try.prog 10 = none := by kernel_rfl
@[simp] theorem ustr10 : ustr Try.prog 10 = true := by kernel_rfl
@[simp] theorem uiface10 : uiface Try.prog 10 = some false := by kernel_rfl
@[simp] theorem uzero10 : uzero Try.prog 10 = some [.str []] := by kernel_rfl
@[simp] theorem usz11 : usz Try.prog 11 = some 1 := by kernel_rfl
@[simp] theorem ubytes11 : ubytes Try.prog 11 = some 16 := by kernel_rfl
@[simp] theorem uagg11 : uagg Try.prog 11 = some false := by kernel_rfl
@[simp] theorem uslice11 : uslice Try.prog 11 = none := by kernel_rfl
@[simp] theorem uarr11 : uarr Try.prog 11 = none := by kernel_rfl
@[simp] theorem uint11 : uint Try.prog 11 = none := by kernel_rfl
@[simp] theorem ustr11 : ustr Try.prog 11 = true := by kernel_rfl
@[simp] theorem uiface11 : uiface Try.prog 11 = some false := by kernel_rfl
@[simp] theorem uzero11 : uzero Try.prog 11 = some [.str []] := by kernel_rfl
@[simp] theorem usz12 : usz Try.prog 12 = some 1 := by kernel_rfl
@[simp] theorem ubytes12 : ubytes Try.prog 12 = some 8 := by kernel_rfl
@[simp] theorem uagg12 : uagg Try.prog 12 = some false := by kernel_rfl
@[simp] theorem uslice12 : uslice Try.prog 12 = none := by kernel_rfl
@[simp] theorem uarr12 : uarr Try.prog 12 = none := by kernel_rfl
@[simp] theorem uint12 : uint Try.prog 12 = some .u64 := by kernel_rfl
@[simp] theorem ustr12 : ustr Try.prog 12 = false := by kernel_rfl
@[simp] theorem uiface12 : uiface Try.prog 12 = some false := by kernel_rfl
@[simp] theorem uzero12 : uzero Try.prog 12 = some [.int .u64 0] := by kernel_rfl
@[simp] theorem usz13 : usz Try.prog 13 = some 2 := by kernel_rfl
@[simp] theorem ubytes13 : ubytes Try.prog 13 = some 24 := by kernel_rfl
@[simp] theorem uagg13 : uagg Try.prog 13 = some true := by kernel_rfl
@[simp] theorem uslice13 : uslice Try.prog 13 = none := by kernel_rfl
@[simp] theorem uarr13 : uarr Try.prog 13 = none := by kernel_rfl
@[simp] theorem uint13 : uint Try.prog 13 = none := by kernel_rfl
@[simp] theorem ustr13 : ustr Try.prog 13 = false := by kernel_rfl
@[simp] theorem uiface13 : uiface Try.prog 13 = some false := by kernel_rfl
@[simp] theorem ufield13_0 : ufield Try.prog 13 0 = some (9, 0) := by kernel_rfl
@[simp] theorem uplace13_0 : uplace Try.prog 13 0 = some (0, 1) := by kernel_rfl
@[simp] theorem ufield13_1 : ufield Try.prog 13 1 = some (12, 1) := by kernel_rfl
@[simp] theorem uplace13_1 : uplace Try.prog 13 1 = some (1, 1) := by kernel_rfl
@[simp] theorem uplaces13 : (uplaces Try.prog 13).isSome = true := by kernel_rfl
@[simp] theorem uzero13 : uzero Try.prog 13 = some [.str [], .int .u64 0] := by kernel_rfl
@[simp] theorem usz14 : usz Try.prog 14 = some 2 := by kernel_rfl
@[simp] theorem ubytes14 : ubytes Try.prog 14 = some 24 := by kernel_rfl
@[simp] theorem uagg14 : uagg Try.prog 14 = some true := by kernel_rfl
@[simp] theorem uslice14 : uslice Try.prog 14 = none := by kernel_rfl
@[simp] theorem uarr14 : uarr Try.prog 14 = none := by kernel_rfl
@[simp] theorem uint14 : uint Try.prog 14 = none := by kernel_rfl
@[simp] theorem ustr14 : ustr Try.prog 14 = false := by kernel_rfl
@[simp] theorem uiface14 : uiface Try.prog 14 = some false := by kernel_rfl
@[simp] theorem ufield14_0 : ufield Try.prog 14 0 = some (9, 0) := by kernel_rfl
@[simp] theorem uplace14_0 : uplace Try.prog 14 0 = some (0, 1) := by kernel_rfl
@[simp] theorem ufield14_1 : ufield Try.prog 14 1 = some (12, 1) := by kernel_rfl
@[simp] theorem uplace14_1 : uplace Try.prog 14 1 = some (1, 1) := by kernel_rfl
@[simp] theorem uplaces14 : (uplaces Try.prog 14).isSome = true := by kernel_rfl
@[simp] theorem uzero14 : uzero Try.prog 14 = some [.str [], .int .u64 0] := by kernel_rfl
@[simp] theorem usz15 : usz Try.prog 15 = some 1 := by kernel_rfl
@[simp] theorem ubytes15 : ubytes Try.prog 15 = some 8 := by kernel_rfl
@[simp] theorem uagg15 : uagg Try.prog 15 = some false := by kernel_rfl
@[simp] theorem uslice15 : uslice Try.prog 15 = none := by kernel_rfl
@[simp] theorem uarr15 : uarr Try.prog 15 = none := by kernel_rfl
@[simp] theorem uint15 : uint Try.prog 15 = none := by kernel_rfl
@[simp] theorem ustr15 : ustr Try.prog 15 = false := by kernel_rfl
@[simp] theorem uiface15 : uiface Try.prog 15 = some false := by kernel_rfl
@[simp] theorem uptr15 : uptr Try.prog 15 = true := by kernel_rfl
@[simp] theorem uzero15 : uzero Try.prog 15 = some [.nilp] := by kernel_rfl
@[simp] theorem usz16 : usz Try.prog 16 = some 1 := by kernel_rfl
@[simp] theorem ubytes16 : ubytes Try.prog 16 = some 8 := by kernel_rfl
@[simp] theorem uagg16 : uagg Try.prog 16 = some false := by kernel_rfl
@[simp] theorem uslice16 : uslice Try.prog 16 = none := by kernel_rfl
@[simp] theorem uarr16 : uarr Try.prog 16 = none := by kernel_rfl
@[simp] theorem uint16 : uint Try.prog 16 = none := by kernel_rfl
@[simp] theorem ustr16 : ustr Try.prog 16 = false := by kernel_rfl
@[simp] theorem uiface16 : uiface Try.prog 16 = some false := by kernel_rfl
@[simp] theorem uptr16 : uptr Try.prog 16 = true := by kernel_rfl
@[simp] theorem uzero16 : uzero Try.prog 16 = some [.nilp] := by kernel_rfl
@[simp] theorem usz17 : usz Try.prog 17 = some 1 := by kernel_rfl
@[simp] theorem ubytes17 : ubytes Try.prog 17 = some 8 := by kernel_rfl
@[simp] theorem uagg17 : uagg Try.prog 17 = some false := by kernel_rfl
@[simp] theorem uslice17 : uslice Try.prog 17 = none := by kernel_rfl
@[simp] theorem uarr17 : uarr Try.prog 17 = none := by kernel_rfl
@[simp] theorem uint17 : uint Try.prog 17 = none := by kernel_rfl
@[simp] theorem ustr17 : ustr Try.prog 17 = false := by kernel_rfl
@[simp] theorem uiface17 : uiface Try.prog 17 = some false := by kernel_rfl
@[simp] theorem uptr17 : uptr Try.prog 17 = true := by kernel_rfl
@[simp] theorem uzero17 : uzero Try.prog 17 = some [.nilp] := by kernel_rfl
@[simp] theorem usz18 : usz Try.prog 18 = some 1 := by kernel_rfl
@[simp] theorem ubytes18 : ubytes Try.prog 18 = some 8 := by kernel_rfl
@[simp] theorem uagg18 : uagg Try.prog 18 = some true := by kernel_rfl
@[simp] theorem uslice18 : uslice Try.prog 18 = none := by kernel_rfl
@[simp] theorem uarr18 : uarr Try.prog 18 = none := by kernel_rfl
@[simp] theorem uint18 : uint Try.prog 18 = none := by kernel_rfl
@[simp] theorem ustr18 : ustr Try.prog 18 = false := by kernel_rfl
@[simp] theorem uiface18 : uiface Try.prog 18 = some false := by kernel_rfl
@[simp] theorem ufield18_0 : ufield Try.prog 18 0 = some (17, 0) := by kernel_rfl
@[simp] theorem uplace18_0 : uplace Try.prog 18 0 = some (0, 1) := by kernel_rfl
@[simp] theorem uplaces18 : (uplaces Try.prog 18).isSome = true := by kernel_rfl
@[simp] theorem uzero18 : uzero Try.prog 18 = some [.nilp] := by kernel_rfl
@[simp] theorem usz19 : usz Try.prog 19 = some 1 := by kernel_rfl
@[simp] theorem ubytes19 : ubytes Try.prog 19 = some 8 := by kernel_rfl
@[simp] theorem uagg19 : uagg Try.prog 19 = some true := by kernel_rfl
@[simp] theorem uslice19 : uslice Try.prog 19 = none := by kernel_rfl
@[simp] theorem uarr19 : uarr Try.prog 19 = none := by kernel_rfl
@[simp] theorem uint19 : uint Try.prog 19 = none := by kernel_rfl
@[simp] theorem ustr19 : ustr Try.prog 19 = false := by kernel_rfl
@[simp] theorem uiface19 : uiface Try.prog 19 = some false := by kernel_rfl
@[simp] theorem ufield19_0 : ufield Try.prog 19 0 = some (17, 0) := by kernel_rfl
@[simp] theorem uplace19_0 : uplace Try.prog 19 0 = some (0, 1) := by kernel_rfl
@[simp] theorem uplaces19 : (uplaces Try.prog 19).isSome = true := by kernel_rfl
@[simp] theorem uzero19 : uzero Try.prog 19 = some [.nilp] := by kernel_rfl
@[simp] theorem usz20 : usz Try.prog 20 = some 1 := by kernel_rfl
@[simp] theorem ubytes20 : ubytes Try.prog 20 = some 16 := by kernel_rfl
@[simp] theorem uagg20 : uagg Try.prog 20 = some false := by kernel_rfl
@[simp] theorem uslice20 : uslice Try.prog 20 = none := by kernel_rfl
@[simp] theorem uarr20 : uarr Try.prog 20 = none := by kernel_rfl
@[simp] theorem uint20 : uint Try.prog 20 = none := by kernel_rfl
@[simp] theorem ustr20 : ustr Try.prog 20 = false := by kernel_rfl
@[simp] theorem uiface20 : uiface Try.prog 20 = some true := by kernel_rfl
@[simp] theorem uzero20 : uzero Try.prog 20 = some [.niface] := by kernel_rfl
@[simp] theorem usz21 : usz Try.prog 21 = some 1 := by kernel_rfl
@[simp] theorem ubytes21 : ubytes Try.prog 21 = some 4 := by kernel_rfl
@[simp] theorem uagg21 : uagg Try.prog 21 = some false := by kernel_rfl
@[simp] theorem uslice21 : uslice Try.prog 21 = none := by kernel_rfl
@[simp] theorem uarr21 : uarr Try.prog 21 = none := by kernel_rfl
@[simp] theorem uint21 : uint Try.prog 21 = some .i32 := by kernel_rfl
@[simp] theorem ustr21 : ustr Try.prog 21 = false := by kernel_rfl
@[simp] theorem uiface21 : uiface Try.prog 21 = some false := by kernel_rfl
@[simp] theorem uzero21 : uzero Try.prog 21 = some [.int .i32 0] := by kernel_rfl
@[simp] theorem usz22 : usz Try.prog 22 = some 1 := by kernel_rfl
@[simp] theorem ubytes22 : ubytes Try.prog 22 = some 24 := by kernel_rfl
@[simp] theorem uagg22 : uagg Try.prog 22 = some false := by kernel_rfl
@[simp] theorem uslice22 : uslice Try.prog 22 = some 3 := by kernel_rfl
@[simp] theorem uarr22 : uarr Try.prog 22 = none := by kernel_rfl
@[simp] theorem uint22 : uint Try.prog 22 = none := by kernel_rfl
@[simp] theorem ustr22 : ustr Try.prog 22 = false := by kernel_rfl
@[simp] theorem uiface22 : uiface Try.prog 22 = some false := by kernel_rfl
@[simp] theorem uzero22 : uzero Try.prog 22 = some [.nils] := by kernel_rfl
@[simp] theorem usz23 : usz Try.prog 23 = some 1 := by kernel_rfl
@[simp] theorem ubytes23 : ubytes Try.prog 23 = some 8 := by kernel_rfl
@[simp] theorem uagg23 : uagg Try.prog 23 = some false := by kernel_rfl
@[simp] theorem uslice23 : uslice Try.prog 23 = none := by kernel_rfl
@[simp] theorem uarr23 : uarr Try.prog 23 = none := by kernel_rfl
@[simp] theorem uint23 : uint Try.prog 23 = none := by kernel_rfl
@[simp] theorem ustr23 : ustr Try.prog 23 = false := by kernel_rfl
@[simp] theorem uiface23 : uiface Try.prog 23 = some false := by kernel_rfl
@[simp] theorem uzero23 : uzero Try.prog 23 = some [.nilf] := by kernel_rfl
@[simp] theorem usz24 : usz Try.prog 24 = some 1 := by kernel_rfl
@[simp] theorem ubytes24 : ubytes Try.prog 24 = some 8 := by kernel_rfl
@[simp] theorem uagg24 : uagg Try.prog 24 = some false := by kernel_rfl
@[simp] theorem uslice24 : uslice Try.prog 24 = none := by kernel_rfl
@[simp] theorem uarr24 : uarr Try.prog 24 = none := by kernel_rfl
@[simp] theorem uint24 : uint Try.prog 24 = none := by kernel_rfl
@[simp] theorem ustr24 : ustr Try.prog 24 = false := by kernel_rfl
@[simp] theorem uiface24 : uiface Try.prog 24 = some false := by kernel_rfl
@[simp] theorem uptr24 : uptr Try.prog 24 = true := by kernel_rfl
@[simp] theorem uzero24 : uzero Try.prog 24 = some [.nilp] := by kernel_rfl
@[simp] theorem usz25 : usz Try.prog 25 = some 1 := by kernel_rfl
@[simp] theorem ubytes25 : ubytes Try.prog 25 = some 8 := by kernel_rfl
@[simp] theorem uagg25 : uagg Try.prog 25 = some false := by kernel_rfl
@[simp] theorem uslice25 : uslice Try.prog 25 = none := by kernel_rfl
@[simp] theorem uarr25 : uarr Try.prog 25 = none := by kernel_rfl
@[simp] theorem uint25 : uint Try.prog 25 = none := by kernel_rfl
@[simp] theorem ustr25 : ustr Try.prog 25 = false := by kernel_rfl
@[simp] theorem uiface25 : uiface Try.prog 25 = some false := by kernel_rfl
@[simp] theorem uzero25 : uzero Try.prog 25 = some [.nilf] := by kernel_rfl
@[simp] theorem usz26 : usz Try.prog 26 = some 1 := by kernel_rfl
@[simp] theorem ubytes26 : ubytes Try.prog 26 = some 8 := by kernel_rfl
@[simp] theorem uagg26 : uagg Try.prog 26 = some false := by kernel_rfl
@[simp] theorem uslice26 : uslice Try.prog 26 = none := by kernel_rfl
@[simp] theorem uarr26 : uarr Try.prog 26 = none := by kernel_rfl
@[simp] theorem uint26 : uint Try.prog 26 = none := by kernel_rfl
@[simp] theorem ustr26 : ustr Try.prog 26 = false := by kernel_rfl
@[simp] theorem uiface26 : uiface Try.prog 26 = some false := by kernel_rfl
@[simp] theorem uzero26 : uzero Try.prog 26 = some [.nilf] := by kernel_rfl
@[simp] theorem usz27 : usz Try.prog 27 = some 1 := by kernel_rfl
@[simp] theorem ubytes27 : ubytes Try.prog 27 = some 8 := by kernel_rfl
@[simp] theorem uagg27 : uagg Try.prog 27 = some false := by kernel_rfl
@[simp] theorem uslice27 : uslice Try.prog 27 = none := by kernel_rfl
@[simp] theorem uarr27 : uarr Try.prog 27 = none := by kernel_rfl
@[simp] theorem uint27 : uint Try.prog 27 = none := by kernel_rfl
@[simp] theorem ustr27 : ustr Try.prog 27 = false := by kernel_rfl
@[simp] theorem uiface27 : uiface Try.prog 27 = some false := by kernel_rfl
@[simp] theorem uzero27 : uzero Try.prog 27 = some [.nilf] := by kernel_rfl
@[simp] theorem usz28 : usz Try.prog 28 = some 1 := by kernel_rfl
@[simp] theorem ubytes28 : ubytes Try.prog 28 = some 8 := by kernel_rfl
@[simp] theorem uagg28 : uagg Try.prog 28 = some false := by kernel_rfl
@[simp] theorem uslice28 : uslice Try.prog 28 = none := by kernel_rfl
@[simp] theorem uarr28 : uarr Try.prog 28 = none := by kernel_rfl
@[simp] theorem uint28 : uint Try.prog 28 = none := by kernel_rfl
@[simp] theorem ustr28 : ustr Try.prog 28 = false := by kernel_rfl
@[simp] theorem uiface28 : uiface Try.prog 28 = some false := by kernel_rfl
@[simp] theorem uzero28 : uzero Try.prog 28 = some [.nilf] := by kernel_rfl
@[simp] theorem usz29 : usz Try.prog 29 = some 1 := by kernel_rfl
@[simp] theorem ubytes29 : ubytes Try.prog 29 = some 8 := by kernel_rfl
@[simp] theorem uagg29 : uagg Try.prog 29 = some false := by kernel_rfl
@[simp] theorem uslice29 : uslice Try.prog 29 = none := by kernel_rfl
@[simp] theorem uarr29 : uarr Try.prog 29 = none := by kernel_rfl
@[simp] theorem uint29 : uint Try.prog 29 = none := by kernel_rfl
@[simp] theorem ustr29 : ustr Try.prog 29 = false := by kernel_rfl
@[simp] theorem uiface29 : uiface Try.prog 29 = some false := by kernel_rfl
@[simp] theorem uzero29 : uzero Try.prog 29 = some [.nilf] := by kernel_rfl
@[simp] theorem usz30 : usz Try.prog 30 = some 1 := by kernel_rfl
@[simp] theorem ubytes30 : ubytes Try.prog 30 = some 24 := by kernel_rfl
@[simp] theorem uagg30 : uagg Try.prog 30 = some false := by kernel_rfl
@[simp] theorem uslice30 : uslice Try.prog 30 = some 9 := by kernel_rfl
@[simp] theorem uarr30 : uarr Try.prog 30 = none := by kernel_rfl
@[simp] theorem uint30 : uint Try.prog 30 = none := by kernel_rfl
@[simp] theorem ustr30 : ustr Try.prog 30 = false := by kernel_rfl
@[simp] theorem uiface30 : uiface Try.prog 30 = some false := by kernel_rfl
@[simp] theorem uzero30 : uzero Try.prog 30 = some [.nils] := by kernel_rfl
@[simp] theorem usz31 : usz Try.prog 31 = some 1 := by kernel_rfl
@[simp] theorem ubytes31 : ubytes Try.prog 31 = some 8 := by kernel_rfl
@[simp] theorem uagg31 : uagg Try.prog 31 = some false := by kernel_rfl
@[simp] theorem uslice31 : uslice Try.prog 31 = none := by kernel_rfl
@[simp] theorem uarr31 : uarr Try.prog 31 = none := by kernel_rfl
@[simp] theorem uint31 : uint Try.prog 31 = some .u64 := by kernel_rfl
@[simp] theorem ustr31 : ustr Try.prog 31 = false := by kernel_rfl
@[simp] theorem uiface31 : uiface Try.prog 31 = some false := by kernel_rfl
@[simp] theorem uzero31 : uzero Try.prog 31 = some [.int .u64 0] := by kernel_rfl
@[simp] theorem usz32 : usz Try.prog 32 = some 1 := by kernel_rfl
@[simp] theorem ubytes32 : ubytes Try.prog 32 = some 8 := by kernel_rfl
@[simp] theorem uagg32 : uagg Try.prog 32 = some false := by kernel_rfl
@[simp] theorem uslice32 : uslice Try.prog 32 = none := by kernel_rfl
@[simp] theorem uarr32 : uarr Try.prog 32 = none := by kernel_rfl
@[simp] theorem uint32 : uint Try.prog 32 = none := by kernel_rfl
@[simp] theorem ustr32 : ustr Try.prog 32 = false := by kernel_rfl
@[simp] theorem uiface32 : uiface Try.prog 32 = some false := by kernel_rfl
@[simp] theorem uptr32 : uptr Try.prog 32 = true := by kernel_rfl
@[simp] theorem uzero32 : uzero Try.prog 32 = some [.nilp] := by kernel_rfl
@[simp] theorem usz33 : usz Try.prog 33 = some 1 := by kernel_rfl
@[simp] theorem ubytes33 : ubytes Try.prog 33 = some 8 := by kernel_rfl
@[simp] theorem uagg33 : uagg Try.prog 33 = some false := by kernel_rfl
@[simp] theorem uslice33 : uslice Try.prog 33 = none := by kernel_rfl
@[simp] theorem uarr33 : uarr Try.prog 33 = none := by kernel_rfl
@[simp] theorem uint33 : uint Try.prog 33 = some .i64 := by kernel_rfl
@[simp] theorem ustr33 : ustr Try.prog 33 = false := by kernel_rfl
@[simp] theorem uiface33 : uiface Try.prog 33 = some false := by kernel_rfl
@[simp] theorem uzero33 : uzero Try.prog 33 = some [.int .i64 0] := by kernel_rfl
@[simp] theorem usz34 : usz Try.prog 34 = some 1 := by kernel_rfl
@[simp] theorem ubytes34 : ubytes Try.prog 34 = some 0 := by kernel_rfl
@[simp] theorem uagg34 : uagg Try.prog 34 = some false := by kernel_rfl
@[simp] theorem uslice34 : uslice Try.prog 34 = none := by kernel_rfl
@[simp] theorem uarr34 : uarr Try.prog 34 = none := by kernel_rfl
@[simp] theorem uint34 : uint Try.prog 34 = none := by kernel_rfl
@[simp] theorem ustr34 : ustr Try.prog 34 = false := by kernel_rfl
@[simp] theorem uiface34 : uiface Try.prog 34 = some false := by kernel_rfl
@[simp] theorem usz35 : usz Try.prog 35 = some 1 := by kernel_rfl
@[simp] theorem ubytes35 : ubytes Try.prog 35 = some 8 := by kernel_rfl
@[simp] theorem uagg35 : uagg Try.prog 35 = some false := by kernel_rfl
@[simp] theorem uslice35 : uslice Try.prog 35 = none := by kernel_rfl
@[simp] theorem uarr35 : uarr Try.prog 35 = none := by kernel_rfl
@[simp] theorem uint35 : uint Try.prog 35 = none := by kernel_rfl
@[simp] theorem ustr35 : ustr Try.prog 35 = false := by kernel_rfl
@[simp] theorem uiface35 : uiface Try.prog 35 = some false := by kernel_rfl
@[simp] theorem uzero35 : uzero Try.prog 35 = some [.nilf] := by kernel_rfl
@[simp] theorem usz36 : usz Try.prog 36 = some 1 := by kernel_rfl
@[simp] theorem ubytes36 : ubytes Try.prog 36 = some 8 := by kernel_rfl
@[simp] theorem uagg36 : uagg Try.prog 36 = some false := by kernel_rfl
@[simp] theorem uslice36 : uslice Try.prog 36 = none := by kernel_rfl
@[simp] theorem uarr36 : uarr Try.prog 36 = none := by kernel_rfl
@[simp] theorem uint36 : uint Try.prog 36 = none := by kernel_rfl
@[simp] theorem ustr36 : ustr Try.prog 36 = false := by kernel_rfl
@[simp] theorem uiface36 : uiface Try.prog 36 = some false := by kernel_rfl
@[simp] theorem uzero36 : uzero Try.prog 36 = some [.nilf] := by kernel_rfl
@[simp] theorem usz37 : usz Try.prog 37 = some 1 := by kernel_rfl
@[simp] theorem ubytes37 : ubytes Try.prog 37 = some 8 := by kernel_rfl
@[simp] theorem uagg37 : uagg Try.prog 37 = some false := by kernel_rfl
@[simp] theorem uslice37 : uslice Try.prog 37 = none := by kernel_rfl
@[simp] theorem uarr37 : uarr Try.prog 37 = none := by kernel_rfl
@[simp] theorem uint37 : uint Try.prog 37 = none := by kernel_rfl
@[simp] theorem ustr37 : ustr Try.prog 37 = false := by kernel_rfl
@[simp] theorem uiface37 : uiface Try.prog 37 = some false := by kernel_rfl
@[simp] theorem uzero37 : uzero Try.prog 37 = some [.nilf] := by kernel_rfl
@[simp] theorem usz38 : usz Try.prog 38 = some 1 := by kernel_rfl
@[simp] theorem ubytes38 : ubytes Try.prog 38 = some 8 := by kernel_rfl
@[simp] theorem uagg38 : uagg Try.prog 38 = some false := by kernel_rfl
@[simp] theorem uslice38 : uslice Try.prog 38 = none := by kernel_rfl
@[simp] theorem uarr38 : uarr Try.prog 38 = none := by kernel_rfl
@[simp] theorem uint38 : uint Try.prog 38 = none := by kernel_rfl
@[simp] theorem ustr38 : ustr Try.prog 38 = false := by kernel_rfl
@[simp] theorem uiface38 : uiface Try.prog 38 = some false := by kernel_rfl
@[simp] theorem uptr38 : uptr Try.prog 38 = true := by kernel_rfl
@[simp] theorem uzero38 : uzero Try.prog 38 = some [.nilp] := by kernel_rfl
@[simp] theorem usz39 : usz Try.prog 39 = some 1 := by kernel_rfl
@[simp] theorem ubytes39 : ubytes Try.prog 39 = some 0 := by kernel_rfl
@[simp] theorem uagg39 : uagg Try.prog 39 = some false := by kernel_rfl
@[simp] theorem uslice39 : uslice Try.prog 39 = none := by kernel_rfl
@[simp] theorem uarr39 : uarr Try.prog 39 = none := by kernel_rfl
@[simp] theorem uint39 : uint Try.prog 39 = none := by kernel_rfl
@[simp] theorem ustr39 : ustr Try.prog 39 = false := by kernel_rfl
@[simp] theorem uiface39 : uiface Try.prog 39 = some false := by kernel_rfl
@[simp] theorem usz40 : usz Try.prog 40 = some 1 := by kernel_rfl
@[simp] theorem ubytes40 : ubytes Try.prog 40 = some 8 := by kernel_rfl
@[simp] theorem uagg40 : uagg Try.prog 40 = some false := by kernel_rfl
@[simp] theorem uslice40 : uslice Try.prog 40 = none := by kernel_rfl
@[simp] theorem uarr40 : uarr Try.prog 40 = none := by kernel_rfl
@[simp] theorem uint40 : uint Try.prog 40 = none := by kernel_rfl
@[simp] theorem ustr40 : ustr Try.prog 40 = false := by kernel_rfl
@[simp] theorem uiface40 : uiface Try.prog 40 = some false := by kernel_rfl
@[simp] theorem uzero40 : uzero Try.prog 40 = some [.nilf] := by kernel_rfl
@[simp] theorem usz41 : usz Try.prog 41 = some 3 := by kernel_rfl
@[simp] theorem ubytes41 : ubytes Try.prog 41 = some 40 := by kernel_rfl
@[simp] theorem uagg41 : uagg Try.prog 41 = some true := by kernel_rfl
@[simp] theorem uslice41 : uslice Try.prog 41 = none := by kernel_rfl
@[simp] theorem uarr41 : uarr Try.prog 41 = none := by kernel_rfl
@[simp] theorem uint41 : uint Try.prog 41 = none := by kernel_rfl
@[simp] theorem ustr41 : ustr Try.prog 41 = false := by kernel_rfl
@[simp] theorem uiface41 : uiface Try.prog 41 = some false := by kernel_rfl
@[simp] theorem ufield41_0 : ufield Try.prog 41 0 = some (3, 0) := by kernel_rfl
@[simp] theorem uplace41_0 : uplace Try.prog 41 0 = some (0, 1) := by kernel_rfl
@[simp] theorem ufield41_1 : ufield Try.prog 41 1 = some (9, 1) := by kernel_rfl
@[simp] theorem uplace41_1 : uplace Try.prog 41 1 = some (1, 1) := by kernel_rfl
@[simp] theorem ufield41_2 : ufield Try.prog 41 2 = some (9, 2) := by kernel_rfl
@[simp] theorem uplace41_2 : uplace Try.prog 41 2 = some (2, 1) := by kernel_rfl
@[simp] theorem uplaces41 : (uplaces Try.prog 41).isSome = true := by kernel_rfl
@[simp] theorem uzero41 : uzero Try.prog 41 = some [.int .i64 0, .str [], .str []] := by kernel_rfl
@[simp] theorem usz42 : usz Try.prog 42 = some 3 := by kernel_rfl
@[simp] theorem ubytes42 : ubytes Try.prog 42 = some 40 := by kernel_rfl
@[simp] theorem uagg42 : uagg Try.prog 42 = some true := by kernel_rfl
@[simp] theorem uslice42 : uslice Try.prog 42 = none := by kernel_rfl
@[simp] theorem uarr42 : uarr Try.prog 42 = none := by kernel_rfl
@[simp] theorem uint42 : uint Try.prog 42 = none := by kernel_rfl
@[simp] theorem ustr42 : ustr Try.prog 42 = false := by kernel_rfl
@[simp] theorem uiface42 : uiface Try.prog 42 = some false := by kernel_rfl
@[simp] theorem ufield42_0 : ufield Try.prog 42 0 = some (3, 0) := by kernel_rfl
@[simp] theorem uplace42_0 : uplace Try.prog 42 0 = some (0, 1) := by kernel_rfl
@[simp] theorem ufield42_1 : ufield Try.prog 42 1 = some (9, 1) := by kernel_rfl
@[simp] theorem uplace42_1 : uplace Try.prog 42 1 = some (1, 1) := by kernel_rfl
@[simp] theorem ufield42_2 : ufield Try.prog 42 2 = some (9, 2) := by kernel_rfl
@[simp] theorem uplace42_2 : uplace Try.prog 42 2 = some (2, 1) := by kernel_rfl
@[simp] theorem uplaces42 : (uplaces Try.prog 42).isSome = true := by kernel_rfl
@[simp] theorem uzero42 : uzero Try.prog 42 = some [.int .i64 0, .str [], .str []] := by kernel_rfl
@[simp] theorem usz43 : usz Try.prog 43 = some 1 := by kernel_rfl
@[simp] theorem ubytes43 : ubytes Try.prog 43 = some 8 := by kernel_rfl
@[simp] theorem uagg43 : uagg Try.prog 43 = some false := by kernel_rfl
@[simp] theorem uslice43 : uslice Try.prog 43 = none := by kernel_rfl
@[simp] theorem uarr43 : uarr Try.prog 43 = none := by kernel_rfl
@[simp] theorem uint43 : uint Try.prog 43 = none := by kernel_rfl
@[simp] theorem ustr43 : ustr Try.prog 43 = false := by kernel_rfl
@[simp] theorem uiface43 : uiface Try.prog 43 = some false := by kernel_rfl
@[simp] theorem uzero43 : uzero Try.prog 43 = some [.nilf] := by kernel_rfl
@[simp] theorem usz44 : usz Try.prog 44 = some 1 := by kernel_rfl
@[simp] theorem ubytes44 : ubytes Try.prog 44 = some 8 := by kernel_rfl
@[simp] theorem uagg44 : uagg Try.prog 44 = some false := by kernel_rfl
@[simp] theorem uslice44 : uslice Try.prog 44 = none := by kernel_rfl
@[simp] theorem uarr44 : uarr Try.prog 44 = none := by kernel_rfl
@[simp] theorem uint44 : uint Try.prog 44 = none := by kernel_rfl
@[simp] theorem ustr44 : ustr Try.prog 44 = false := by kernel_rfl
@[simp] theorem uiface44 : uiface Try.prog 44 = some false := by kernel_rfl
@[simp] theorem uzero44 : uzero Try.prog 44 = some [.nilf] := by kernel_rfl
@[simp] theorem usz45 : usz Try.prog 45 = some 1 := by kernel_rfl
@[simp] theorem ubytes45 : ubytes Try.prog 45 = some 24 := by kernel_rfl
@[simp] theorem uagg45 : uagg Try.prog 45 = some false := by kernel_rfl
@[simp] theorem uslice45 : uslice Try.prog 45 = some 30 := by kernel_rfl
@[simp] theorem uarr45 : uarr Try.prog 45 = none := by kernel_rfl
@[simp] theorem uint45 : uint Try.prog 45 = none := by kernel_rfl
@[simp] theorem ustr45 : ustr Try.prog 45 = false := by kernel_rfl
@[simp] theorem uiface45 : uiface Try.prog 45 = some false := by kernel_rfl
@[simp] theorem uzero45 : uzero Try.prog 45 = some [.nils] := by kernel_rfl
@[simp] theorem usz46 : usz Try.prog 46 = some 3 := by kernel_rfl
@[simp] theorem ubytes46 : ubytes Try.prog 46 = some 56 := by kernel_rfl
@[simp] theorem uagg46 : uagg Try.prog 46 = some true := by kernel_rfl
@[simp] theorem uslice46 : uslice Try.prog 46 = none := by kernel_rfl
@[simp] theorem uarr46 : uarr Try.prog 46 = none := by kernel_rfl
@[simp] theorem uint46 : uint Try.prog 46 = none := by kernel_rfl
@[simp] theorem ustr46 : ustr Try.prog 46 = false := by kernel_rfl
@[simp] theorem uiface46 : uiface Try.prog 46 = some false := by kernel_rfl
@[simp] theorem ufield46_0 : ufield Try.prog 46 0 = some (9, 0) := by kernel_rfl
@[simp] theorem uplace46_0 : uplace Try.prog 46 0 = some (0, 1) := by kernel_rfl
@[simp] theorem ufield46_1 : ufield Try.prog 46 1 = some (9, 1) := by kernel_rfl
@[simp] theorem uplace46_1 : uplace Try.prog 46 1 = some (1, 1) := by kernel_rfl
@[simp] theorem ufield46_2 : ufield Try.prog 46 2 = some (45, 2) := by kernel_rfl
@[simp] theorem uplace46_2 : uplace Try.prog 46 2 = some (2, 1) := by kernel_rfl
@[simp] theorem uplaces46 : (uplaces Try.prog 46).isSome = true := by kernel_rfl
@[simp] theorem uzero46 : uzero Try.prog 46 = some [.str [], .str [], .nils] := by kernel_rfl
@[simp] theorem usz47 : usz Try.prog 47 = some 3 := by kernel_rfl
@[simp] theorem ubytes47 : ubytes Try.prog 47 = some 56 := by kernel_rfl
@[simp] theorem uagg47 : uagg Try.prog 47 = some true := by kernel_rfl
@[simp] theorem uslice47 : uslice Try.prog 47 = none := by kernel_rfl
@[simp] theorem uarr47 : uarr Try.prog 47 = none := by kernel_rfl
@[simp] theorem uint47 : uint Try.prog 47 = none := by kernel_rfl
@[simp] theorem ustr47 : ustr Try.prog 47 = false := by kernel_rfl
@[simp] theorem uiface47 : uiface Try.prog 47 = some false := by kernel_rfl
@[simp] theorem ufield47_0 : ufield Try.prog 47 0 = some (9, 0) := by kernel_rfl
@[simp] theorem uplace47_0 : uplace Try.prog 47 0 = some (0, 1) := by kernel_rfl
@[simp] theorem ufield47_1 : ufield Try.prog 47 1 = some (9, 1) := by kernel_rfl
@[simp] theorem uplace47_1 : uplace Try.prog 47 1 = some (1, 1) := by kernel_rfl
@[simp] theorem ufield47_2 : ufield Try.prog 47 2 = some (45, 2) := by kernel_rfl
@[simp] theorem uplace47_2 : uplace Try.prog 47 2 = some (2, 1) := by kernel_rfl
@[simp] theorem uplaces47 : (uplaces Try.prog 47).isSome = true := by kernel_rfl
@[simp] theorem uzero47 : uzero Try.prog 47 = some [.str [], .str [], .nils] := by kernel_rfl
@[simp] theorem usz48 : usz Try.prog 48 = some 1 := by kernel_rfl
@[simp] theorem ubytes48 : ubytes Try.prog 48 = some 8 := by kernel_rfl
@[simp] theorem uagg48 : uagg Try.prog 48 = some false := by kernel_rfl
@[simp] theorem uslice48 : uslice Try.prog 48 = none := by kernel_rfl
@[simp] theorem uarr48 : uarr Try.prog 48 = none := by kernel_rfl
@[simp] theorem uint48 : uint Try.prog 48 = none := by kernel_rfl
@[simp] theorem ustr48 : ustr Try.prog 48 = false := by kernel_rfl
@[simp] theorem uiface48 : uiface Try.prog 48 = some false := by kernel_rfl
@[simp] theorem uzero48 : uzero Try.prog 48 = some [.nilf] := by kernel_rfl
@[simp] theorem usz49 : usz Try.prog 49 = some 1 := by kernel_rfl
@[simp] theorem ubytes49 : ubytes Try.prog 49 = some 8 := by kernel_rfl
@[simp] theorem uagg49 : uagg Try.prog 49 = some false := by kernel_rfl
@[simp] theorem uslice49 : uslice Try.prog 49 = none := by kernel_rfl
@[simp] theorem uarr49 : uarr Try.prog 49 = none := by kernel_rfl
@[simp] theorem uint49 : uint Try.prog 49 = none := by kernel_rfl
@[simp] theorem ustr49 : ustr Try.prog 49 = false := by kernel_rfl
@[simp] theorem uiface49 : uiface Try.prog 49 = some false := by kernel_rfl
@[simp] theorem uzero49 : uzero Try.prog 49 = some [.nilf] := by kernel_rfl
@[simp] theorem usz50 : usz Try.prog 50 = some 1 := by kernel_rfl
@[simp] theorem ubytes50 : ubytes Try.prog 50 = some 8 := by kernel_rfl
@[simp] theorem uagg50 : uagg Try.prog 50 = some false := by kernel_rfl
@[simp] theorem uslice50 : uslice Try.prog 50 = none := by kernel_rfl
@[simp] theorem uarr50 : uarr Try.prog 50 = none := by kernel_rfl
@[simp] theorem uint50 : uint Try.prog 50 = none := by kernel_rfl
@[simp] theorem ustr50 : ustr Try.prog 50 = false := by kernel_rfl
@[simp] theorem uiface50 : uiface Try.prog 50 = some false := by kernel_rfl
@[simp] theorem uzero50 : uzero Try.prog 50 = some [.nilf] := by kernel_rfl
@[simp] theorem usz51 : usz Try.prog 51 = some 1 := by kernel_rfl
@[simp] theorem ubytes51 : ubytes Try.prog 51 = some 0 := by kernel_rfl
@[simp] theorem uagg51 : uagg Try.prog 51 = some false := by kernel_rfl
@[simp] theorem uslice51 : uslice Try.prog 51 = none := by kernel_rfl
@[simp] theorem uarr51 : uarr Try.prog 51 = none := by kernel_rfl
@[simp] theorem uint51 : uint Try.prog 51 = none := by kernel_rfl
@[simp] theorem ustr51 : ustr Try.prog 51 = false := by kernel_rfl
@[simp] theorem uiface51 : uiface Try.prog 51 = some false := by kernel_rfl
@[simp] theorem usz52 : usz Try.prog 52 = some 1 := by kernel_rfl
@[simp] theorem ubytes52 : ubytes Try.prog 52 = some 8 := by kernel_rfl
@[simp] theorem uagg52 : uagg Try.prog 52 = some false := by kernel_rfl
@[simp] theorem uslice52 : uslice Try.prog 52 = none := by kernel_rfl
@[simp] theorem uarr52 : uarr Try.prog 52 = none := by kernel_rfl
@[simp] theorem uint52 : uint Try.prog 52 = none := by kernel_rfl
@[simp] theorem ustr52 : ustr Try.prog 52 = false := by kernel_rfl
@[simp] theorem uiface52 : uiface Try.prog 52 = some false := by kernel_rfl
@[simp] theorem uzero52 : uzero Try.prog 52 = some [.nilf] := by kernel_rfl
@[simp] theorem usz53 : usz Try.prog 53 = some 1 := by kernel_rfl
@[simp] theorem ubytes53 : ubytes Try.prog 53 = some 0 := by kernel_rfl
@[simp] theorem uagg53 : uagg Try.prog 53 = some false := by kernel_rfl
@[simp] theorem uslice53 : uslice Try.prog 53 = none := by kernel_rfl
@[simp] theorem uarr53 : uarr Try.prog 53 = none := by kernel_rfl
@[simp] theorem uint53 : uint Try.prog 53 = none := by kernel_rfl
@[simp] theorem ustr53 : ustr Try.prog 53 = false := by kernel_rfl
@[simp] theorem uiface53 : uiface Try.prog 53 = some false := by kernel_rfl
@[simp] theorem usz54 : usz Try.prog 54 = some 1 := by kernel_rfl
@[simp] theorem ubytes54 : ubytes Try.prog 54 = some 8 := by kernel_rfl
@[simp] theorem uagg54 : uagg Try.prog 54 = some false := by kernel_rfl
@[simp] theorem uslice54 : uslice Try.prog 54 = none := by kernel_rfl
@[simp] theorem uarr54 : uarr Try.prog 54 = none := by kernel_rfl
@[simp] theorem uint54 : uint Try.prog 54 = none := by kernel_rfl
@[simp] theorem ustr54 : ustr Try.prog 54 = false := by kernel_rfl
@[simp] theorem uiface54 : uiface Try.prog 54 = some false := by kernel_rfl
@[simp] theorem uzero54 : uzero Try.prog 54 = some [.nilf] := by kernel_rfl
@[simp] theorem usz55 : usz Try.prog 55 = some 1 := by kernel_rfl
@[simp] theorem ubytes55 : ubytes Try.prog 55 = some 24 := by kernel_rfl
@[simp] theorem uagg55 : uagg Try.prog 55 = some true := by kernel_rfl
@[simp] theorem uslice55 : uslice Try.prog 55 = none := by kernel_rfl
@[simp] theorem uarr55 : uarr Try.prog 55 = none := by kernel_rfl
@[simp] theorem uint55 : uint Try.prog 55 = none := by kernel_rfl
@[simp] theorem ustr55 : ustr Try.prog 55 = false := by kernel_rfl
@[simp] theorem uiface55 : uiface Try.prog 55 = some false := by kernel_rfl
@[simp] theorem ufield55_0 : ufield Try.prog 55 0 = some (45, 0) := by kernel_rfl
@[simp] theorem uplace55_0 : uplace Try.prog 55 0 = some (0, 1) := by kernel_rfl
@[simp] theorem uplaces55 : (uplaces Try.prog 55).isSome = true := by kernel_rfl
@[simp] theorem uzero55 : uzero Try.prog 55 = some [.nils] := by kernel_rfl
@[simp] theorem usz56 : usz Try.prog 56 = some 1 := by kernel_rfl
@[simp] theorem ubytes56 : ubytes Try.prog 56 = some 24 := by kernel_rfl
@[simp] theorem uagg56 : uagg Try.prog 56 = some true := by kernel_rfl
@[simp] theorem uslice56 : uslice Try.prog 56 = none := by kernel_rfl
@[simp] theorem uarr56 : uarr Try.prog 56 = none := by kernel_rfl
@[simp] theorem uint56 : uint Try.prog 56 = none := by kernel_rfl
@[simp] theorem ustr56 : ustr Try.prog 56 = false := by kernel_rfl
@[simp] theorem uiface56 : uiface Try.prog 56 = some false := by kernel_rfl
@[simp] theorem ufield56_0 : ufield Try.prog 56 0 = some (45, 0) := by kernel_rfl
@[simp] theorem uplace56_0 : uplace Try.prog 56 0 = some (0, 1) := by kernel_rfl
@[simp] theorem uplaces56 : (uplaces Try.prog 56).isSome = true := by kernel_rfl
@[simp] theorem uzero56 : uzero Try.prog 56 = some [.nils] := by kernel_rfl
@[simp] theorem usz57 : usz Try.prog 57 = some 4 := by kernel_rfl
@[simp] theorem ubytes57 : ubytes Try.prog 57 = some 64 := by kernel_rfl
@[simp] theorem uagg57 : uagg Try.prog 57 = some true := by kernel_rfl
@[simp] theorem uslice57 : uslice Try.prog 57 = none := by kernel_rfl
@[simp] theorem uarr57 : uarr Try.prog 57 = none := by kernel_rfl
@[simp] theorem uint57 : uint Try.prog 57 = none := by kernel_rfl
@[simp] theorem ustr57 : ustr Try.prog 57 = false := by kernel_rfl
@[simp] theorem uiface57 : uiface Try.prog 57 = some false := by kernel_rfl
@[simp] theorem ufield57_0 : ufield Try.prog 57 0 = some (56, 0) := by kernel_rfl
@[simp] theorem uplace57_0 : uplace Try.prog 57 0 = some (0, 1) := by kernel_rfl
@[simp] theorem ufield57_1 : ufield Try.prog 57 1 = some (9, 1) := by kernel_rfl
@[simp] theorem uplace57_1 : uplace Try.prog 57 1 = some (1, 1) := by kernel_rfl
@[simp] theorem ufield57_2 : ufield Try.prog 57 2 = some (9, 2) := by kernel_rfl
@[simp] theorem uplace57_2 : uplace Try.prog 57 2 = some (2, 1) := by kernel_rfl
@[simp] theorem ufield57_3 : ufield Try.prog 57 3 = some (3, 3) := by kernel_rfl
@[simp] theorem uplace57_3 : uplace Try.prog 57 3 = some (3, 1) := by kernel_rfl
@[simp] theorem uplaces57 : (uplaces Try.prog 57).isSome = true := by kernel_rfl
@[simp] theorem uzero57 : uzero Try.prog 57 = some [.nils, .str [], .str [], .int .i64 0] := by kernel_rfl
@[simp] theorem usz58 : usz Try.prog 58 = some 4 := by kernel_rfl
@[simp] theorem ubytes58 : ubytes Try.prog 58 = some 64 := by kernel_rfl
@[simp] theorem uagg58 : uagg Try.prog 58 = some true := by kernel_rfl
@[simp] theorem uslice58 : uslice Try.prog 58 = none := by kernel_rfl
@[simp] theorem uarr58 : uarr Try.prog 58 = none := by kernel_rfl
@[simp] theorem uint58 : uint Try.prog 58 = none := by kernel_rfl
@[simp] theorem ustr58 : ustr Try.prog 58 = false := by kernel_rfl
@[simp] theorem uiface58 : uiface Try.prog 58 = some false := by kernel_rfl
@[simp] theorem ufield58_0 : ufield Try.prog 58 0 = some (56, 0) := by kernel_rfl
@[simp] theorem uplace58_0 : uplace Try.prog 58 0 = some (0, 1) := by kernel_rfl
@[simp] theorem ufield58_1 : ufield Try.prog 58 1 = some (9, 1) := by kernel_rfl
@[simp] theorem uplace58_1 : uplace Try.prog 58 1 = some (1, 1) := by kernel_rfl
@[simp] theorem ufield58_2 : ufield Try.prog 58 2 = some (9, 2) := by kernel_rfl
@[simp] theorem uplace58_2 : uplace Try.prog 58 2 = some (2, 1) := by kernel_rfl
@[simp] theorem ufield58_3 : ufield Try.prog 58 3 = some (3, 3) := by kernel_rfl
@[simp] theorem uplace58_3 : uplace Try.prog 58 3 = some (3, 1) := by kernel_rfl
@[simp] theorem uplaces58 : (uplaces Try.prog 58).isSome = true := by kernel_rfl
@[simp] theorem uzero58 : uzero Try.prog 58 = some [.nils, .str [], .str [], .int .i64 0] := by kernel_rfl
@[simp] theorem usz59 : usz Try.prog 59 = some 1 := by kernel_rfl
@[simp] theorem ubytes59 : ubytes Try.prog 59 = some 24 := by kernel_rfl
@[simp] theorem uagg59 : uagg Try.prog 59 = some false := by kernel_rfl
@[simp] theorem uslice59 : uslice Try.prog 59 = some 38 := by kernel_rfl
@[simp] theorem uarr59 : uarr Try.prog 59 = none := by kernel_rfl
@[simp] theorem uint59 : uint Try.prog 59 = none := by kernel_rfl
@[simp] theorem ustr59 : ustr Try.prog 59 = false := by kernel_rfl
@[simp] theorem uiface59 : uiface Try.prog 59 = some false := by kernel_rfl
@[simp] theorem uzero59 : uzero Try.prog 59 = some [.nils] := by kernel_rfl
@[simp] theorem usz60 : usz Try.prog 60 = some 1 := by kernel_rfl
@[simp] theorem ubytes60 : ubytes Try.prog 60 = some 8 := by kernel_rfl
@[simp] theorem uagg60 : uagg Try.prog 60 = some false := by kernel_rfl
@[simp] theorem uslice60 : uslice Try.prog 60 = none := by kernel_rfl
@[simp] theorem uarr60 : uarr Try.prog 60 = none := by kernel_rfl
@[simp] theorem uint60 : uint Try.prog 60 = none := by kernel_rfl
@[simp] theorem ustr60 : ustr Try.prog 60 = false := by kernel_rfl
@[simp] theorem uiface60 : uiface Try.prog 60 = some false := by kernel_rfl
@[simp] theorem uzero60 : uzero Try.prog 60 = some [.nilf] := by kernel_rfl
@[simp] theorem usz61 : usz Try.prog 61 = some 1 := by kernel_rfl
@[simp] theorem ubytes61 : ubytes Try.prog 61 = some 8 := by kernel_rfl
@[simp] theorem uagg61 : uagg Try.prog 61 = some false := by kernel_rfl
@[simp] theorem uslice61 : uslice Try.prog 61 = none := by kernel_rfl
@[simp] theorem uarr61 : uarr Try.prog 61 = none := by kernel_rfl
@[simp] theorem uint61 : uint Try.prog 61 = none := by kernel_rfl
@[simp] theorem ustr61 : ustr Try.prog 61 = false := by kernel_rfl
@[simp] theorem uiface61 : uiface Try.prog 61 = some false := by kernel_rfl
@[simp] theorem uzero61 : uzero Try.prog 61 = some [.nilf] := by kernel_rfl
@[simp] theorem usz62 : usz Try.prog 62 = some 1 := by kernel_rfl
@[simp] theorem ubytes62 : ubytes Try.prog 62 = some 8 := by kernel_rfl
@[simp] theorem uagg62 : uagg Try.prog 62 = some false := by kernel_rfl
@[simp] theorem uslice62 : uslice Try.prog 62 = none := by kernel_rfl
@[simp] theorem uarr62 : uarr Try.prog 62 = none := by kernel_rfl
@[simp] theorem uint62 : uint Try.prog 62 = none := by kernel_rfl
@[simp] theorem ustr62 : ustr Try.prog 62 = false := by kernel_rfl
@[simp] theorem uiface62 : uiface Try.prog 62 = some false := by kernel_rfl
@[simp] theorem uzero62 : uzero Try.prog 62 = some [.nilf] := by kernel_rfl
@[simp] theorem usz63 : usz Try.prog 63 = some 1 := by kernel_rfl
@[simp] theorem ubytes63 : ubytes Try.prog 63 = some 0 := by kernel_rfl
@[simp] theorem uagg63 : uagg Try.prog 63 = some false := by kernel_rfl
@[simp] theorem uslice63 : uslice Try.prog 63 = none := by kernel_rfl
@[simp] theorem uarr63 : uarr Try.prog 63 = none := by kernel_rfl
@[simp] theorem uint63 : uint Try.prog 63 = none := by kernel_rfl
@[simp] theorem ustr63 : ustr Try.prog 63 = false := by kernel_rfl
@[simp] theorem uiface63 : uiface Try.prog 63 = some false := by kernel_rfl
@[simp] theorem usz64 : usz Try.prog 64 = some 1 := by kernel_rfl
@[simp] theorem ubytes64 : ubytes Try.prog 64 = some 8 := by kernel_rfl
@[simp] theorem uagg64 : uagg Try.prog 64 = some false := by kernel_rfl
@[simp] theorem uslice64 : uslice Try.prog 64 = none := by kernel_rfl
@[simp] theorem uarr64 : uarr Try.prog 64 = none := by kernel_rfl
@[simp] theorem uint64 : uint Try.prog 64 = none := by kernel_rfl
@[simp] theorem ustr64 : ustr Try.prog 64 = false := by kernel_rfl
@[simp] theorem uiface64 : uiface Try.prog 64 = some false := by kernel_rfl
@[simp] theorem uzero64 : uzero Try.prog 64 = some [.nilf] := by kernel_rfl
@[simp] theorem usz65 : usz Try.prog 65 = some 1 := by kernel_rfl
@[simp] theorem ubytes65 : ubytes Try.prog 65 = some 8 := by kernel_rfl
@[simp] theorem uagg65 : uagg Try.prog 65 = some false := by kernel_rfl
@[simp] theorem uslice65 : uslice Try.prog 65 = none := by kernel_rfl
@[simp] theorem uarr65 : uarr Try.prog 65 = none := by kernel_rfl
@[simp] theorem uint65 : uint Try.prog 65 = none := by kernel_rfl
@[simp] theorem ustr65 : ustr Try.prog 65 = false := by kernel_rfl
@[simp] theorem uiface65 : uiface Try.prog 65 = some false := by kernel_rfl
@[simp] theorem uzero65 : uzero Try.prog 65 = some [.nilf] := by kernel_rfl
@[simp] theorem usz66 : usz Try.prog 66 = some 1 := by kernel_rfl
@[simp] theorem ubytes66 : ubytes Try.prog 66 = some 8 := by kernel_rfl
@[simp] theorem uagg66 : uagg Try.prog 66 = some false := by kernel_rfl
@[simp] theorem uslice66 : uslice Try.prog 66 = none := by kernel_rfl
@[simp] theorem uarr66 : uarr Try.prog 66 = none := by kernel_rfl
@[simp] theorem uint66 : uint Try.prog 66 = none := by kernel_rfl
@[simp] theorem ustr66 : ustr Try.prog 66 = false := by kernel_rfl
@[simp] theorem uiface66 : uiface Try.prog 66 = some false := by kernel_rfl
@[simp] theorem uzero66 : uzero Try.prog 66 = some [.nilf] := by kernel_rfl
@[simp] theorem usz67 : usz Try.prog 67 = some 1 := by kernel_rfl
@[simp] theorem ubytes67 : ubytes Try.prog 67 = some 8 := by kernel_rfl
@[simp] theorem uagg67 : uagg Try.prog 67 = some false := by kernel_rfl
@[simp] theorem uslice67 : uslice Try.prog 67 = none := by kernel_rfl
@[simp] theorem uarr67 : uarr Try.prog 67 = none := by kernel_rfl
@[simp] theorem uint67 : uint Try.prog 67 = none := by kernel_rfl
@[simp] theorem ustr67 : ustr Try.prog 67 = false := by kernel_rfl
@[simp] theorem uiface67 : uiface Try.prog 67 = some false := by kernel_rfl
@[simp] theorem uzero67 : uzero Try.prog 67 = some [.nilf] := by kernel_rfl
@[simp] theorem usz68 : usz Try.prog 68 = some 1 := by kernel_rfl
@[simp] theorem ubytes68 : ubytes Try.prog 68 = some 24 := by kernel_rfl
@[simp] theorem uagg68 : uagg Try.prog 68 = some false := by kernel_rfl
@[simp] theorem uslice68 : uslice Try.prog 68 = some 5 := by kernel_rfl
@[simp] theorem uarr68 : uarr Try.prog 68 = none := by kernel_rfl
@[simp] theorem uint68 : uint Try.prog 68 = none := by kernel_rfl
@[simp] theorem ustr68 : ustr Try.prog 68 = false := by kernel_rfl
@[simp] theorem uiface68 : uiface Try.prog 68 = some false := by kernel_rfl
@[simp] theorem uzero68 : uzero Try.prog 68 = some [.nils] := by kernel_rfl
@[simp] theorem usz69 : usz Try.prog 69 = some 1 := by kernel_rfl
@[simp] theorem ubytes69 : ubytes Try.prog 69 = some 8 := by kernel_rfl
@[simp] theorem uagg69 : uagg Try.prog 69 = some false := by kernel_rfl
@[simp] theorem uslice69 : uslice Try.prog 69 = none := by kernel_rfl
@[simp] theorem uarr69 : uarr Try.prog 69 = none := by kernel_rfl
@[simp] theorem uint69 : uint Try.prog 69 = none := by kernel_rfl
@[simp] theorem ustr69 : ustr Try.prog 69 = false := by kernel_rfl
@[simp] theorem uiface69 : uiface Try.prog 69 = some false := by kernel_rfl
@[simp] theorem uzero69 : uzero Try.prog 69 = some [.nilf] := by kernel_rfl
@[simp] theorem usz70 : usz Try.prog 70 = some 1 := by kernel_rfl
@[simp] theorem ubytes70 : ubytes Try.prog 70 = some 8 := by kernel_rfl
@[simp] theorem uagg70 : uagg Try.prog 70 = some false := by kernel_rfl
@[simp] theorem uslice70 : uslice Try.prog 70 = none := by kernel_rfl
@[simp] theorem uarr70 : uarr Try.prog 70 = none := by kernel_rfl
@[simp] theorem uint70 : uint Try.prog 70 = none := by kernel_rfl
@[simp] theorem ustr70 : ustr Try.prog 70 = false := by kernel_rfl
@[simp] theorem uiface70 : uiface Try.prog 70 = some false := by kernel_rfl
@[simp] theorem uzero70 : uzero Try.prog 70 = some [.nilf] := by kernel_rfl
@[simp] theorem usz71 : usz Try.prog 71 = some 1 := by kernel_rfl
@[simp] theorem ubytes71 : ubytes Try.prog 71 = some 8 := by kernel_rfl
@[simp] theorem uagg71 : uagg Try.prog 71 = some false := by kernel_rfl
@[simp] theorem uslice71 : uslice Try.prog 71 = none := by kernel_rfl
@[simp] theorem uarr71 : uarr Try.prog 71 = none := by kernel_rfl
@[simp] theorem uint71 : uint Try.prog 71 = none := by kernel_rfl
@[simp] theorem ustr71 : ustr Try.prog 71 = false := by kernel_rfl
@[simp] theorem uiface71 : uiface Try.prog 71 = some false := by kernel_rfl
@[simp] theorem uzero71 : uzero Try.prog 71 = some [.nilf] := by kernel_rfl
@[simp] theorem usz72 : usz Try.prog 72 = some 1 := by kernel_rfl
@[simp] theorem ubytes72 : ubytes Try.prog 72 = some 8 := by kernel_rfl
@[simp] theorem uagg72 : uagg Try.prog 72 = some false := by kernel_rfl
@[simp] theorem uslice72 : uslice Try.prog 72 = none := by kernel_rfl
@[simp] theorem uarr72 : uarr Try.prog 72 = none := by kernel_rfl
@[simp] theorem uint72 : uint Try.prog 72 = none := by kernel_rfl
@[simp] theorem ustr72 : ustr Try.prog 72 = false := by kernel_rfl
@[simp] theorem uiface72 : uiface Try.prog 72 = some false := by kernel_rfl
@[simp] theorem uzero72 : uzero Try.prog 72 = some [.nilf] := by kernel_rfl
@[simp] theorem usz73 : usz Try.prog 73 = some 1 := by kernel_rfl
@[simp] theorem ubytes73 : ubytes Try.prog 73 = some 8 := by kernel_rfl
@[simp] theorem uagg73 : uagg Try.prog 73 = some false := by kernel_rfl
@[simp] theorem uslice73 : uslice Try.prog 73 = none := by kernel_rfl
@[simp] theorem uarr73 : uarr Try.prog 73 = none := by kernel_rfl
@[simp] theorem uint73 : uint Try.prog 73 = none := by kernel_rfl
@[simp] theorem ustr73 : ustr Try.prog 73 = false := by kernel_rfl
@[simp] theorem uiface73 : uiface Try.prog 73 = some false := by kernel_rfl
@[simp] theorem uzero73 : uzero Try.prog 73 = some [.nilf] := by kernel_rfl
@[simp] theorem usz74 : usz Try.prog 74 = some 3 := by kernel_rfl
@[simp] theorem ubytes74 : ubytes Try.prog 74 = some 32 := by kernel_rfl
@[simp] theorem uagg74 : uagg Try.prog 74 = some true := by kernel_rfl
@[simp] theorem uslice74 : uslice Try.prog 74 = none := by kernel_rfl
@[simp] theorem uarr74 : uarr Try.prog 74 = none := by kernel_rfl
@[simp] theorem uint74 : uint Try.prog 74 = none := by kernel_rfl
@[simp] theorem ustr74 : ustr Try.prog 74 = false := by kernel_rfl
@[simp] theorem uiface74 : uiface Try.prog 74 = some false := by kernel_rfl
@[simp] theorem ufield74_0 : ufield Try.prog 74 0 = some (9, 0) := by kernel_rfl
@[simp] theorem uplace74_0 : uplace Try.prog 74 0 = some (0, 1) := by kernel_rfl
@[simp] theorem ufield74_1 : ufield Try.prog 74 1 = some (3, 1) := by kernel_rfl
@[simp] theorem uplace74_1 : uplace Try.prog 74 1 = some (1, 1) := by kernel_rfl
@[simp] theorem ufield74_2 : ufield Try.prog 74 2 = some (3, 2) := by kernel_rfl
@[simp] theorem uplace74_2 : uplace Try.prog 74 2 = some (2, 1) := by kernel_rfl
@[simp] theorem uplaces74 : (uplaces Try.prog 74).isSome = true := by kernel_rfl
@[simp] theorem uzero74 : uzero Try.prog 74 = some [.str [], .int .i64 0, .int .i64 0] := by kernel_rfl
@[simp] theorem usz75 : usz Try.prog 75 = some 3 := by kernel_rfl
@[simp] theorem ubytes75 : ubytes Try.prog 75 = some 32 := by kernel_rfl
@[simp] theorem uagg75 : uagg Try.prog 75 = some true := by kernel_rfl
@[simp] theorem uslice75 : uslice Try.prog 75 = none := by kernel_rfl
@[simp] theorem uarr75 : uarr Try.prog 75 = none := by kernel_rfl
@[simp] theorem uint75 : uint Try.prog 75 = none := by kernel_rfl
@[simp] theorem ustr75 : ustr Try.prog 75 = false := by kernel_rfl
@[simp] theorem uiface75 : uiface Try.prog 75 = some false := by kernel_rfl
@[simp] theorem ufield75_0 : ufield Try.prog 75 0 = some (9, 0) := by kernel_rfl
@[simp] theorem uplace75_0 : uplace Try.prog 75 0 = some (0, 1) := by kernel_rfl
@[simp] theorem ufield75_1 : ufield Try.prog 75 1 = some (3, 1) := by kernel_rfl
@[simp] theorem uplace75_1 : uplace Try.prog 75 1 = some (1, 1) := by kernel_rfl
@[simp] theorem ufield75_2 : ufield Try.prog 75 2 = some (3, 2) := by kernel_rfl
@[simp] theorem uplace75_2 : uplace Try.prog 75 2 = some (2, 1) := by kernel_rfl
@[simp] theorem uplaces75 : (uplaces Try.prog 75).isSome = true := by kernel_rfl
@[simp] theorem uzero75 : uzero Try.prog 75 = some [.str [], .int .i64 0, .int .i64 0] := by kernel_rfl
@[simp] theorem usz76 : usz Try.prog 76 = some 4 := by kernel_rfl
@[simp] theorem ubytes76 : ubytes Try.prog 76 = some 40 := by kernel_rfl
@[simp] theorem uagg76 : uagg Try.prog 76 = some true := by kernel_rfl
@[simp] theorem uslice76 : uslice Try.prog 76 = none := by kernel_rfl
@[simp] theorem uarr76 : uarr Try.prog 76 = none := by kernel_rfl
@[simp] theorem uint76 : uint Try.prog 76 = none := by kernel_rfl
@[simp] theorem ustr76 : ustr Try.prog 76 = false := by kernel_rfl
@[simp] theorem uiface76 : uiface Try.prog 76 = some false := by kernel_rfl
@[simp] theorem ufield76_0 : ufield Try.prog 76 0 = some (75, 0) := by kernel_rfl
@[simp] theorem uplace76_0 : uplace Try.prog 76 0 = some (0, 3) := by kernel_rfl
@[simp] theorem ufield76_1 : ufield Try.prog 76 1 = some (38, 3) := by kernel_rfl
@[simp] theorem uplace76_1 : uplace Try.prog 76 1 = some (3, 1) := by kernel_rfl
@[simp] theorem uplaces76 : (uplaces Try.prog 76).isSome = true := by kernel_rfl
@[simp] theorem uzero76 : uzero Try.prog 76 = some [.str [], .int .i64 0, .int .i64 0, .nilp] := by kernel_rfl
@[simp] theorem usz77 : usz Try.prog 77 = some 4 := by kernel_rfl
@[simp] theorem ubytes77 : ubytes Try.prog 77 = some 40 := by kernel_rfl
@[simp] theorem uagg77 : uagg Try.prog 77 = some true := by kernel_rfl
@[simp] theorem uslice77 : uslice Try.prog 77 = none := by kernel_rfl
@[simp] theorem uarr77 : uarr Try.prog 77 = none := by kernel_rfl
@[simp] theorem uint77 : uint Try.prog 77 = none := by kernel_rfl
@[simp] theorem ustr77 : ustr Try.prog 77 = false := by kernel_rfl
@[simp] theorem uiface77 : uiface Try.prog 77 = some false := by kernel_rfl
@[simp] theorem ufield77_0 : ufield Try.prog 77 0 = some (75, 0) := by kernel_rfl
@[simp] theorem uplace77_0 : uplace Try.prog 77 0 = some (0, 3) := by kernel_rfl
@[simp] theorem ufield77_1 : ufield Try.prog 77 1 = some (38, 3) := by kernel_rfl
@[simp] theorem uplace77_1 : uplace Try.prog 77 1 = some (3, 1) := by kernel_rfl
@[simp] theorem uplaces77 : (uplaces Try.prog 77).isSome = true := by kernel_rfl
@[simp] theorem uzero77 : uzero Try.prog 77 = some [.str [], .int .i64 0, .int .i64 0, .nilp] := by kernel_rfl
@[simp] theorem usz78 : usz Try.prog 78 = some 1 := by kernel_rfl
@[simp] theorem ubytes78 : ubytes Try.prog 78 = some 24 := by kernel_rfl
@[simp] theorem uagg78 : uagg Try.prog 78 = some false := by kernel_rfl
@[simp] theorem uslice78 : uslice Try.prog 78 = some 32 := by kernel_rfl
@[simp] theorem uarr78 : uarr Try.prog 78 = none := by kernel_rfl
@[simp] theorem uint78 : uint Try.prog 78 = none := by kernel_rfl
@[simp] theorem ustr78 : ustr Try.prog 78 = false := by kernel_rfl
@[simp] theorem uiface78 : uiface Try.prog 78 = some false := by kernel_rfl
@[simp] theorem uzero78 : uzero Try.prog 78 = some [.nils] := by kernel_rfl
@[simp] theorem usz79 : usz Try.prog 79 = some 1 := by kernel_rfl
@[simp] theorem ubytes79 : ubytes Try.prog 79 = some 8 := by kernel_rfl
@[simp] theorem uagg79 : uagg Try.prog 79 = some false := by kernel_rfl
@[simp] theorem uslice79 : uslice Try.prog 79 = none := by kernel_rfl
@[simp] theorem uarr79 : uarr Try.prog 79 = none := by kernel_rfl
@[simp] theorem uint79 : uint Try.prog 79 = none := by kernel_rfl
@[simp] theorem ustr79 : ustr Try.prog 79 = false := by kernel_rfl
@[simp] theorem uiface79 : uiface Try.prog 79 = some false := by kernel_rfl
@[simp] theorem uzero79 : uzero Try.prog 79 = some [.nilf] := by kernel_rfl
@[simp] theorem usz80 : usz Try.prog 80 = some 1 := by kernel_rfl
@[simp] theorem ubytes80 : ubytes Try.prog 80 = some 8 := by kernel_rfl
@[simp] theorem uagg80 : uagg Try.prog 80 = some false := by kernel_rfl
@[simp] theorem uslice80 : uslice Try.prog 80 = none := by kernel_rfl
@[simp] theorem uarr80 : uarr Try.prog 80 = none := by kernel_rfl
@[simp] theorem uint80 : uint Try.prog 80 = none := by kernel_rfl
@[simp] theorem ustr80 : ustr Try.prog 80 = false := by kernel_rfl
@[simp] theorem uiface80 : uiface Try.prog 80 = some false := by kernel_rfl
@[simp] theorem uzero80 : uzero Try.prog 80 = some [.nilf] := by kernel_rfl
@[simp] theorem usz81 : usz Try.prog 81 = some 1 := by kernel_rfl
@[simp] theorem ubytes81 : ubytes Try.prog 81 = some 8 := by kernel_rfl
@[simp] theorem uagg81 : uagg Try.prog 81 = some false := by kernel_rfl
@[simp] theorem uslice81 : uslice Try.prog 81 = none := by kernel_rfl
@[simp] theorem uarr81 : uarr Try.prog 81 = none := by kernel_rfl
@[simp] theorem uint81 : uint Try.prog 81 = none := by kernel_rfl
@[simp] theorem ustr81 : ustr Try.prog 81 = false := by kernel_rfl
@[simp] theorem uiface81 : uiface Try.prog 81 = some false := by kernel_rfl
@[simp] theorem uzero81 : uzero Try.prog 81 = some [.nilf] := by kernel_rfl
@[simp] theorem usz82 : usz Try.prog 82 = some 1 := by kernel_rfl
@[simp] theorem ubytes82 : ubytes Try.prog 82 = some 24 := by kernel_rfl
@[simp] theorem uagg82 : uagg Try.prog 82 = some false := by kernel_rfl
@[simp] theorem uslice82 : uslice Try.prog 82 = some 4 := by kernel_rfl
@[simp] theorem uarr82 : uarr Try.prog 82 = none := by kernel_rfl
@[simp] theorem uint82 : uint Try.prog 82 = none := by kernel_rfl
@[simp] theorem ustr82 : ustr Try.prog 82 = false := by kernel_rfl
@[simp] theorem uiface82 : uiface Try.prog 82 = some false := by kernel_rfl
@[simp] theorem uzero82 : uzero Try.prog 82 = some [.nils] := by kernel_rfl
@[simp] theorem usz83 : usz Try.prog 83 = some 1 := by kernel_rfl
@[simp] theorem ubytes83 : ubytes Try.prog 83 = some 8 := by kernel_rfl
@[simp] theorem uagg83 : uagg Try.prog 83 = some false := by kernel_rfl
@[simp] theorem uslice83 : uslice Try.prog 83 = none := by kernel_rfl
@[simp] theorem uarr83 : uarr Try.prog 83 = none := by kernel_rfl
@[simp] theorem uint83 : uint Try.prog 83 = none := by kernel_rfl
@[simp] theorem ustr83 : ustr Try.prog 83 = false := by kernel_rfl
@[simp] theorem uiface83 : uiface Try.prog 83 = some false := by kernel_rfl
@[simp] theorem uzero83 : uzero Try.prog 83 = some [.nilf] := by kernel_rfl
@[simp] theorem usz84 : usz Try.prog 84 = some 1 := by kernel_rfl
@[simp] theorem ubytes84 : ubytes Try.prog 84 = some 8 := by kernel_rfl
@[simp] theorem uagg84 : uagg Try.prog 84 = some false := by kernel_rfl
@[simp] theorem uslice84 : uslice Try.prog 84 = none := by kernel_rfl
@[simp] theorem uarr84 : uarr Try.prog 84 = none := by kernel_rfl
@[simp] theorem uint84 : uint Try.prog 84 = none := by kernel_rfl
@[simp] theorem ustr84 : ustr Try.prog 84 = false := by kernel_rfl
@[simp] theorem uiface84 : uiface Try.prog 84 = some false := by kernel_rfl
@[simp] theorem uzero84 : uzero Try.prog 84 = some [.nilf] := by kernel_rfl
@[simp] theorem usz85 : usz Try.prog 85 = some 2 := by kernel_rfl
@[simp] theorem ubytes85 : ubytes Try.prog 85 = some 32 := by kernel_rfl
@[simp] theorem uagg85 : uagg Try.prog 85 = some true := by kernel_rfl
@[simp] theorem uslice85 : uslice Try.prog 85 = none := by kernel_rfl
@[simp] theorem uarr85 : uarr Try.prog 85 = none := by kernel_rfl
@[simp] theorem uint85 : uint Try.prog 85 = none := by kernel_rfl
@[simp] theorem ustr85 : ustr Try.prog 85 = false := by kernel_rfl
@[simp] theorem uiface85 : uiface Try.prog 85 = some false := by kernel_rfl
@[simp] theorem ufield85_0 : ufield Try.prog 85 0 = some (22, 0) := by kernel_rfl
@[simp] theorem uplace85_0 : uplace Try.prog 85 0 = some (0, 1) := by kernel_rfl
@[simp] theorem ufield85_1 : ufield Try.prog 85 1 = some (3, 1) := by kernel_rfl
@[simp] theorem uplace85_1 : uplace Try.prog 85 1 = some (1, 1) := by kernel_rfl
@[simp] theorem uplaces85 : (uplaces Try.prog 85).isSome = true := by kernel_rfl
@[simp] theorem uzero85 : uzero Try.prog 85 = some [.nils, .int .i64 0] := by kernel_rfl
@[simp] theorem usz86 : usz Try.prog 86 = some 2 := by kernel_rfl
@[simp] theorem ubytes86 : ubytes Try.prog 86 = some 32 := by kernel_rfl
@[simp] theorem uagg86 : uagg Try.prog 86 = some true := by kernel_rfl
@[simp] theorem uslice86 : uslice Try.prog 86 = none := by kernel_rfl
@[simp] theorem uarr86 : uarr Try.prog 86 = none := by kernel_rfl
@[simp] theorem uint86 : uint Try.prog 86 = none := by kernel_rfl
@[simp] theorem ustr86 : ustr Try.prog 86 = false := by kernel_rfl
@[simp] theorem uiface86 : uiface Try.prog 86 = some false := by kernel_rfl
@[simp] theorem ufield86_0 : ufield Try.prog 86 0 = some (22, 0) := by kernel_rfl
@[simp] theorem uplace86_0 : uplace Try.prog 86 0 = some (0, 1) := by kernel_rfl
@[simp] theorem ufield86_1 : ufield Try.prog 86 1 = some (3, 1) := by kernel_rfl
@[simp] theorem uplace86_1 : uplace Try.prog 86 1 = some (1, 1) := by kernel_rfl
@[simp] theorem uplaces86 : (uplaces Try.prog 86).isSome = true := by kernel_rfl
@[simp] theorem uzero86 : uzero Try.prog 86 = some [.nils, .int .i64 0] := by kernel_rfl
@[simp] theorem usz87 : usz Try.prog 87 = some 1 := by kernel_rfl
@[simp] theorem ubytes87 : ubytes Try.prog 87 = some 8 := by kernel_rfl
@[simp] theorem uagg87 : uagg Try.prog 87 = some false := by kernel_rfl
@[simp] theorem uslice87 : uslice Try.prog 87 = none := by kernel_rfl
@[simp] theorem uarr87 : uarr Try.prog 87 = none := by kernel_rfl
@[simp] theorem uint87 : uint Try.prog 87 = none := by kernel_rfl
@[simp] theorem ustr87 : ustr Try.prog 87 = false := by kernel_rfl
@[simp] theorem uiface87 : uiface Try.prog 87 = some false := by kernel_rfl
@[simp] theorem uzero87 : uzero Try.prog 87 = some [.nilf] := by kernel_rfl
@[simp] theorem usz88 : usz Try.prog 88 = some 1 := by kernel_rfl
@[simp] theorem ubytes88 : ubytes Try.prog 88 = some 8 := by kernel_rfl
@[simp] theorem uagg88 : uagg Try.prog 88 = some false := by kernel_rfl
@[simp] theorem uslice88 : uslice Try.prog 88 = none := by kernel_rfl
@[simp] theorem uarr88 : uarr Try.prog 88 = none := by kernel_rfl
@[simp] theorem uint88 : uint Try.prog 88 = none := by kernel_rfl
@[simp] theorem ustr88 : ustr Try.prog 88 = false := by kernel_rfl
@[simp] theorem uiface88 : uiface Try.prog 88 = some false := by kernel_rfl
@[simp] theorem uzero88 : uzero Try.prog 88 = some [.nilf] := by kernel_rfl
@[simp] theorem usz89 : usz Try.prog 89 = some 1 := by kernel_rfl
@[simp] theorem ubytes89 : ubytes Try.prog 89 = some 8 := by kernel_rfl
@[simp] theorem uagg89 : uagg Try.prog 89 = some false := by kernel_rfl
@[simp] theorem uslice89 : uslice Try.prog 89 = none := by kernel_rfl
@[simp] theorem uarr89 : uarr Try.prog 89 = none := by kernel_rfl
@[simp] theorem uint89 : uint Try.prog 89 = none := by kernel_rfl
@[simp] theorem ustr89 : ustr Try.prog 89 = false := by kernel_rfl
@[simp] theorem uiface89 : uiface Try.prog 89 = some false := by kernel_rfl
@[simp] theorem uzero89 : uzero Try.prog 89 = some [.nilf] := by kernel_rfl
@[simp] theorem usz90 : usz Try.prog 90 = some 1 := by kernel_rfl
@[simp] theorem ubytes90 : ubytes Try.prog 90 = some 8 := by kernel_rfl
@[simp] theorem uagg90 : uagg Try.prog 90 = some false := by kernel_rfl
@[simp] theorem uslice90 : uslice Try.prog 90 = none := by kernel_rfl
@[simp] theorem uarr90 : uarr Try.prog 90 = none := by kernel_rfl
@[simp] theorem uint90 : uint Try.prog 90 = none := by kernel_rfl
@[simp] theorem ustr90 : ustr Try.prog 90 = false := by kernel_rfl
@[simp] theorem uiface90 : uiface Try.prog 90 = some false := by kernel_rfl
@[simp] theorem uzero90 : uzero Try.prog 90 = some [.nilf] := by kernel_rfl
@[simp] theorem usz91 : usz Try.prog 91 = some 1 := by kernel_rfl
@[simp] theorem ubytes91 : ubytes Try.prog 91 = some 8 := by kernel_rfl
@[simp] theorem uagg91 : uagg Try.prog 91 = some false := by kernel_rfl
@[simp] theorem uslice91 : uslice Try.prog 91 = none := by kernel_rfl
@[simp] theorem uarr91 : uarr Try.prog 91 = none := by kernel_rfl
@[simp] theorem uint91 : uint Try.prog 91 = none := by kernel_rfl
@[simp] theorem ustr91 : ustr Try.prog 91 = false := by kernel_rfl
@[simp] theorem uiface91 : uiface Try.prog 91 = some false := by kernel_rfl
@[simp] theorem uzero91 : uzero Try.prog 91 = some [.nilf] := by kernel_rfl
@[simp] theorem usz92 : usz Try.prog 92 = some 1 := by kernel_rfl
@[simp] theorem ubytes92 : ubytes Try.prog 92 = some 8 := by kernel_rfl
@[simp] theorem uagg92 : uagg Try.prog 92 = some false := by kernel_rfl
@[simp] theorem uslice92 : uslice Try.prog 92 = none := by kernel_rfl
@[simp] theorem uarr92 : uarr Try.prog 92 = none := by kernel_rfl
@[simp] theorem uint92 : uint Try.prog 92 = none := by kernel_rfl
@[simp] theorem ustr92 : ustr Try.prog 92 = false := by kernel_rfl
@[simp] theorem uiface92 : uiface Try.prog 92 = some false := by kernel_rfl
@[simp] theorem uzero92 : uzero Try.prog 92 = some [.nilf] := by kernel_rfl
@[simp] theorem usz93 : usz Try.prog 93 = some 1 := by kernel_rfl
@[simp] theorem ubytes93 : ubytes Try.prog 93 = some 4 := by kernel_rfl
@[simp] theorem uagg93 : uagg Try.prog 93 = some false := by kernel_rfl
@[simp] theorem uslice93 : uslice Try.prog 93 = none := by kernel_rfl
@[simp] theorem uarr93 : uarr Try.prog 93 = none := by kernel_rfl
@[simp] theorem uint93 : uint Try.prog 93 = some .u32 := by kernel_rfl
@[simp] theorem ustr93 : ustr Try.prog 93 = false := by kernel_rfl
@[simp] theorem uiface93 : uiface Try.prog 93 = some false := by kernel_rfl
@[simp] theorem uzero93 : uzero Try.prog 93 = some [.int .u32 0] := by kernel_rfl
@[simp] theorem usz94 : usz Try.prog 94 = some 1 := by kernel_rfl
@[simp] theorem ubytes94 : ubytes Try.prog 94 = some 24 := by kernel_rfl
@[simp] theorem uagg94 : uagg Try.prog 94 = some false := by kernel_rfl
@[simp] theorem uslice94 : uslice Try.prog 94 = some 93 := by kernel_rfl
@[simp] theorem uarr94 : uarr Try.prog 94 = none := by kernel_rfl
@[simp] theorem uint94 : uint Try.prog 94 = none := by kernel_rfl
@[simp] theorem ustr94 : ustr Try.prog 94 = false := by kernel_rfl
@[simp] theorem uiface94 : uiface Try.prog 94 = some false := by kernel_rfl
@[simp] theorem uzero94 : uzero Try.prog 94 = some [.nils] := by kernel_rfl
@[simp] theorem usz95 : usz Try.prog 95 = some 1 := by kernel_rfl
@[simp] theorem ubytes95 : ubytes Try.prog 95 = some 8 := by kernel_rfl
@[simp] theorem uagg95 : uagg Try.prog 95 = some false := by kernel_rfl
@[simp] theorem uslice95 : uslice Try.prog 95 = none := by kernel_rfl
@[simp] theorem uarr95 : uarr Try.prog 95 = none := by kernel_rfl
@[simp] theorem uint95 : uint Try.prog 95 = none := by kernel_rfl
@[simp] theorem ustr95 : ustr Try.prog 95 = false := by kernel_rfl
@[simp] theorem uiface95 : uiface Try.prog 95 = some false := by kernel_rfl
@[simp] theorem uzero95 : uzero Try.prog 95 = some [.nilf] := by kernel_rfl
@[simp] theorem usz96 : usz Try.prog 96 = some 1 := by kernel_rfl
@[simp] theorem ubytes96 : ubytes Try.prog 96 = some 8 := by kernel_rfl
@[simp] theorem uagg96 : uagg Try.prog 96 = some false := by kernel_rfl
@[simp] theorem uslice96 : uslice Try.prog 96 = none := by kernel_rfl
@[simp] theorem uarr96 : uarr Try.prog 96 = none := by kernel_rfl
@[simp] theorem uint96 : uint Try.prog 96 = none := by kernel_rfl
@[simp] theorem ustr96 : ustr Try.prog 96 = false := by kernel_rfl
@[simp] theorem uiface96 : uiface Try.prog 96 = some false := by kernel_rfl
@[simp] theorem uzero96 : uzero Try.prog 96 = some [.nilf] := by kernel_rfl
@[simp] theorem usz97 : usz Try.prog 97 = some 1 := by kernel_rfl
@[simp] theorem ubytes97 : ubytes Try.prog 97 = some 8 := by kernel_rfl
@[simp] theorem uagg97 : uagg Try.prog 97 = some false := by kernel_rfl
@[simp] theorem uslice97 : uslice Try.prog 97 = none := by kernel_rfl
@[simp] theorem uarr97 : uarr Try.prog 97 = none := by kernel_rfl
@[simp] theorem uint97 : uint Try.prog 97 = none := by kernel_rfl
@[simp] theorem ustr97 : ustr Try.prog 97 = false := by kernel_rfl
@[simp] theorem uiface97 : uiface Try.prog 97 = some false := by kernel_rfl
@[simp] theorem uzero97 : uzero Try.prog 97 = some [.nilf] := by kernel_rfl
@[simp] theorem usz98 : usz Try.prog 98 = some 1 := by kernel_rfl
@[simp] theorem ubytes98 : ubytes Try.prog 98 = some 0 := by kernel_rfl
@[simp] theorem uagg98 : uagg Try.prog 98 = some false := by kernel_rfl
@[simp] theorem uslice98 : uslice Try.prog 98 = none := by kernel_rfl
@[simp] theorem uarr98 : uarr Try.prog 98 = none := by kernel_rfl
@[simp] theorem uint98 : uint Try.prog 98 = none := by kernel_rfl
@[simp] theorem ustr98 : ustr Try.prog 98 = false := by kernel_rfl
@[simp] theorem uiface98 : uiface Try.prog 98 = some false := by kernel_rfl
@[simp] theorem usz99 : usz Try.prog 99 = some 1 := by kernel_rfl
@[simp] theorem ubytes99 : ubytes Try.prog 99 = some 8 := by kernel_rfl
@[simp] theorem uagg99 : uagg Try.prog 99 = some false := by kernel_rfl
@[simp] theorem uslice99 : uslice Try.prog 99 = none := by kernel_rfl
@[simp] theorem uarr99 : uarr Try.prog 99 = none := by kernel_rfl
@[simp] theorem uint99 : uint Try.prog 99 = none := by kernel_rfl
@[simp] theorem ustr99 : ustr Try.prog 99 = false := by kernel_rfl
@[simp] theorem uiface99 : uiface Try.prog 99 = some false := by kernel_rfl
@[simp] theorem uzero99 : uzero Try.prog 99 = some [.nilf] := by kernel_rfl
@[simp] theorem usz100 : usz Try.prog 100 = some 1 := by kernel_rfl
@[simp] theorem ubytes100 : ubytes Try.prog 100 = some 8 := by kernel_rfl
@[simp] theorem uagg100 : uagg Try.prog 100 = some false := by kernel_rfl
@[simp] theorem uslice100 : uslice Try.prog 100 = none := by kernel_rfl
@[simp] theorem uarr100 : uarr Try.prog 100 = none := by kernel_rfl
@[simp] theorem uint100 : uint Try.prog 100 = none := by kernel_rfl
@[simp] theorem ustr100 : ustr Try.prog 100 = false := by kernel_rfl
@[simp] theorem uiface100 : uiface Try.prog 100 = some false := by kernel_rfl
@[simp] theorem uzero100 : uzero Try.prog 100 = some [.nilf] := by kernel_rfl
@[simp] theorem usz101 : usz Try.prog 101 = some 1 := by kernel_rfl
@[simp] theorem ubytes101 : ubytes Try.prog 101 = some 8 := by kernel_rfl
@[simp] theorem uagg101 : uagg Try.prog 101 = some false := by kernel_rfl
@[simp] theorem uslice101 : uslice Try.prog 101 = none := by kernel_rfl
@[simp] theorem uarr101 : uarr Try.prog 101 = none := by kernel_rfl
@[simp] theorem uint101 : uint Try.prog 101 = none := by kernel_rfl
@[simp] theorem ustr101 : ustr Try.prog 101 = false := by kernel_rfl
@[simp] theorem uiface101 : uiface Try.prog 101 = some false := by kernel_rfl
@[simp] theorem uzero101 : uzero Try.prog 101 = some [.nilf] := by kernel_rfl
@[simp] theorem usz102 : usz Try.prog 102 = some 1 := by kernel_rfl
@[simp] theorem ubytes102 : ubytes Try.prog 102 = some 8 := by kernel_rfl
@[simp] theorem uagg102 : uagg Try.prog 102 = some false := by kernel_rfl
@[simp] theorem uslice102 : uslice Try.prog 102 = none := by kernel_rfl
@[simp] theorem uarr102 : uarr Try.prog 102 = none := by kernel_rfl
@[simp] theorem uint102 : uint Try.prog 102 = none := by kernel_rfl
@[simp] theorem ustr102 : ustr Try.prog 102 = false := by kernel_rfl
@[simp] theorem uiface102 : uiface Try.prog 102 = some false := by kernel_rfl
@[simp] theorem uzero102 : uzero Try.prog 102 = some [.nilf] := by kernel_rfl
@[simp] theorem usz103 : usz Try.prog 103 = some 64 := by kernel_rfl
@[simp] theorem ubytes103 : ubytes Try.prog 103 = some 256 := by kernel_rfl
@[simp] theorem uagg103 : uagg Try.prog 103 = some true := by kernel_rfl
@[simp] theorem uslice103 : uslice Try.prog 103 = none := by kernel_rfl
@[simp] theorem uarr103 : uarr Try.prog 103 = some (64, 93) := by kernel_rfl
@[simp] theorem uint103 : uint Try.prog 103 = none := by kernel_rfl
@[simp] theorem ustr103 : ustr Try.prog 103 = false := by kernel_rfl
@[simp] theorem uiface103 : uiface Try.prog 103 = some false := by kernel_rfl
@[simp] theorem uplace103 (i : Nat) : uplace Try.prog 103 i = some (i * 1, 1) := by kernel_rfl
@[simp] theorem uplaces103 : (uplaces Try.prog 103).isSome = true := by kernel_rfl
@[simp] theorem uzero103 : uzero Try.prog 103 = some (List.replicate 64 (.int .u32 0 : V)) := by kernel_rfl
@[simp] theorem usz104 : usz Try.prog 104 = some 1 := by kernel_rfl
@[simp] theorem ubytes104 : ubytes Try.prog 104 = some 8 := by kernel_rfl
@[simp] theorem uagg104 : uagg Try.prog 104 = some false := by kernel_rfl
@[simp] theorem uslice104 : uslice Try.prog 104 = none := by kernel_rfl
@[simp] theorem uarr104 : uarr Try.prog 104 = none := by kernel_rfl
@[simp] theorem uint104 : uint Try.prog 104 = none := by kernel_rfl
@[simp] theorem ustr104 : ustr Try.prog 104 = false := by kernel_rfl
@[simp] theorem uiface104 : uiface Try.prog 104 = some false := by kernel_rfl
@[simp] theorem uptr104 : uptr Try.prog 104 = true := by kernel_rfl
@[simp] theorem uzero104 : uzero Try.prog 104 = some [.nilp] := by kernel_rfl
@[simp] theorem usz105 : usz Try.prog 105 = some 1 := by kernel_rfl
@[simp] theorem ubytes105 : ubytes Try.prog 105 = some 8 := by kernel_rfl
@[simp] theorem uagg105 : uagg Try.prog 105 = some false := by kernel_rfl
@[simp] theorem uslice105 : uslice Try.prog 105 = none := by kernel_rfl
@[simp] theorem uarr105 : uarr Try.prog 105 = none := by kernel_rfl
@[simp] theorem uint105 : uint Try.prog 105 = none := by kernel_rfl
@[simp] theorem ustr105 : ustr Try.prog 105 = false := by kernel_rfl
@[simp] theorem uiface105 : uiface Try.prog 105 = some false := by kernel_rfl
@[simp] theorem uzero105 : uzero Try.prog 105 = some [.nilf] := by kernel_rfl
@[simp] theorem usz106 : usz Try.prog 106 = some 1 := by kernel_rfl
@[simp] theorem ubytes106 : ubytes Try.prog 106 = some 8 := by kernel_rfl
@[simp] theorem uagg106 : uagg Try.prog 106 = some false := by kernel_rfl
@[simp] theorem uslice106 : uslice Try.prog 106 = none := by kernel_rfl
@[simp] theorem uarr106 : uarr Try.prog 106 = none := by kernel_rfl
@[simp] theorem uint106 : uint Try.prog 106 = none := by kernel_rfl
@[simp] theorem ustr106 : ustr Try.prog 106 = false := by kernel_rfl
@[simp] theorem uiface106 : uiface Try.prog 106 = some false := by kernel_rfl
@[simp] theorem uzero106 : uzero Try.prog 106 = some [.nilf] := by kernel_rfl
@[simp] theorem usz107 : usz Try.prog 107 = some 8 := by kernel_rfl
@[simp] theorem ubytes107 : ubytes Try.prog 107 = some 32 := by kernel_rfl
@[simp] theorem uagg107 : uagg Try.prog 107 = some true := by kernel_rfl
@[simp] theorem uslice107 : uslice Try.prog 107 = none := by kernel_rfl
@[simp] theorem uarr107 : uarr Try.prog 107 = some (8, 93) := by kernel_rfl
@[simp] theorem uint107 : uint Try.prog 107 = none := by kernel_rfl
@[simp] theorem ustr107 : ustr Try.prog 107 = false := by kernel_rfl
@[simp] theorem uiface107 : uiface Try.prog 107 = some false := by kernel_rfl
@[simp] theorem uplace107 (i : Nat) : uplace Try.prog 107 i = some (i * 1, 1) := by kernel_rfl
@[simp] theorem uplaces107 : (uplaces Try.prog 107).isSome = true := by kernel_rfl
@[simp] theorem uzero107 : uzero Try.prog 107 = some [.int .u32 0, .int .u32 0, .int .u32 0, .int .u32 0, .int .u32 0, .int .u32 0, .int .u32 0, .int .u32 0] := by kernel_rfl
@[simp] theorem usz108 : usz Try.prog 108 = some 8 := by kernel_rfl
@[simp] theorem ubytes108 : ubytes Try.prog 108 = some 32 := by kernel_rfl
@[simp] theorem uagg108 : uagg Try.prog 108 = some true := by kernel_rfl
@[simp] theorem uslice108 : uslice Try.prog 108 = none := by kernel_rfl
@[simp] theorem uarr108 : uarr Try.prog 108 = some (8, 93) := by kernel_rfl
@[simp] theorem uint108 : uint Try.prog 108 = none := by kernel_rfl
@[simp] theorem ustr108 : ustr Try.prog 108 = false := by kernel_rfl
@[simp] theorem uiface108 : uiface Try.prog 108 = some false := by kernel_rfl
@[simp] theorem uplace108 (i : Nat) : uplace Try.prog 108 i = some (i * 1, 1) := by kernel_rfl
@[simp] theorem uplaces108 : (uplaces Try.prog 108).isSome = true := by kernel_rfl
@[simp] theorem uzero108 : uzero Try.prog 108 = some [.int .u32 0, .int .u32 0, .int .u32 0, .int .u32 0, .int .u32 0, .int .u32 0, .int .u32 0, .int .u32 0] := by kernel_rfl
@[simp] theorem usz109 : usz Try.prog 109 = some 10 := by kernel_rfl
@[simp] theorem ubytes109 : ubytes Try.prog 109 = some 64 := by kernel_rfl
@[simp] theorem uagg109 : uagg Try.prog 109 = some true := by kernel_rfl
@[simp] theorem uslice109 : uslice Try.prog 109 = none := by kernel_rfl
@[simp] theorem uarr109 : uarr Try.prog 109 = none := by kernel_rfl
@[simp] theorem uint109 : uint Try.prog 109 = none := by kernel_rfl
@[simp] theorem ustr109 : ustr Try.prog 109 = false := by kernel_rfl
@[simp] theorem uiface109 : uiface Try.prog 109 = some false := by kernel_rfl
@[simp] theorem ufield109_0 : ufield Try.prog 109 0 = some (108, 0) := by kernel_rfl
@[simp] theorem uplace109_0 : uplace Try.prog 109 0 = some (0, 8) := by kernel_rfl
@[simp] theorem ufield109_1 : ufield Try.prog 109 1 = some (68, 8) := by kernel_rfl
@[simp] theorem uplace109_1 : uplace Try.prog 109 1 = some (8, 1) := by kernel_rfl
@[simp] theorem ufield109_2 : ufield Try.prog 109 2 = some (3, 9) := by kernel_rfl
@[simp] theorem uplace109_2 : uplace Try.prog 109 2 = some (9, 1) := by kernel_rfl
@[simp] theorem uplaces109 : (uplaces Try.prog 109).isSome = true := by kernel_rfl
@[simp] theorem uzero109 : uzero Try.prog 109 = some [.int .u32 0, .int .u32 0, .int .u32 0, .int .u32 0, .int .u32 0, .int .u32 0, .int .u32 0, .int .u32 0, .nils, .int .i64 0] := by kernel_rfl
@[simp] theorem usz110 : usz Try.prog 110 = some 10 := by kernel_rfl
@[simp] theorem ubytes110 : ubytes Try.prog 110 = some 64 := by kernel_rfl
@[simp] theorem uagg110 : uagg Try.prog 110 = some true := by kernel_rfl
@[simp] theorem uslice110 : uslice Try.prog 110 = none := by kernel_rfl
@[simp] theorem uarr110 : uarr Try.prog 110 = none := by kernel_rfl
@[simp] theorem uint110 : uint Try.prog 110 = none := by kernel_rfl
@[simp] theorem ustr110 : ustr Try.prog 110 = false := by kernel_rfl
@[simp] theorem uiface110 : uiface Try.prog 110 = some false := by kernel_rfl
@[simp] theorem ufield110_0 : ufield Try.prog 110 0 = some (108, 0) := by kernel_rfl
@[simp] theorem uplace110_0 : uplace Try.prog 110 0 = some (0, 8) := by kernel_rfl
@[simp] theorem ufield110_1 : ufield Try.prog 110 1 = some (68, 8) := by kernel_rfl
@[simp] theorem uplace110_1 : uplace Try.prog 110 1 = some (8, 1) := by kernel_rfl
@[simp] theorem ufield110_2 : ufield Try.prog 110 2 = some (3, 9) := by kernel_rfl
@[simp] theorem uplace110_2 : uplace Try.prog 110 2 = some (9, 1) := by kernel_rfl
@[simp] theorem uplaces110 : (uplaces Try.prog 110).isSome = true := by kernel_rfl
@[simp] theorem uzero110 : uzero Try.prog 110 = some [.int .u32 0, .int .u32 0, .int .u32 0, .int .u32 0, .int .u32 0, .int .u32 0, .int .u32 0, .int .u32 0, .nils, .int .i64 0] := by kernel_rfl
@[simp] theorem usz111 : usz Try.prog 111 = some 1 := by kernel_rfl
@[simp] theorem ubytes111 : ubytes Try.prog 111 = some 8 := by kernel_rfl
@[simp] theorem uagg111 : uagg Try.prog 111 = some false := by kernel_rfl
@[simp] theorem uslice111 : uslice Try.prog 111 = none := by kernel_rfl
@[simp] theorem uarr111 : uarr Try.prog 111 = none := by kernel_rfl
@[simp] theorem uint111 : uint Try.prog 111 = none := by kernel_rfl
@[simp] theorem ustr111 : ustr Try.prog 111 = false := by kernel_rfl
@[simp] theorem uiface111 : uiface Try.prog 111 = some false := by kernel_rfl
@[simp] theorem uzero111 : uzero Try.prog 111 = some [.nilf] := by kernel_rfl
@[simp] theorem usz112 : usz Try.prog 112 = some 1 := by kernel_rfl
@[simp] theorem ubytes112 : ubytes Try.prog 112 = some 8 := by kernel_rfl
@[simp] theorem uagg112 : uagg Try.prog 112 = some false := by kernel_rfl
@[simp] theorem uslice112 : uslice Try.prog 112 = none := by kernel_rfl
@[simp] theorem uarr112 : uarr Try.prog 112 = none := by kernel_rfl
@[simp] theorem uint112 : uint Try.prog 112 = none := by kernel_rfl
@[simp] theorem ustr112 : ustr Try.prog 112 = false := by kernel_rfl
@[simp] theorem uiface112 : uiface Try.prog 112 = some false := by kernel_rfl
@[simp] theorem uzero112 : uzero Try.prog 112 = some [.nilf] := by kernel_rfl
@[simp] theorem usz113 : usz Try.prog 113 = some 1 := by kernel_rfl
@[simp] theorem ubytes113 : ubytes Try.prog 113 = some 8 := by kernel_rfl
@[simp] theorem uagg113 : uagg Try.prog 113 = some false := by kernel_rfl
@[simp] theorem uslice113 : uslice Try.prog 113 = none := by kernel_rfl
@[simp] theorem uarr113 : uarr Try.prog 113 = none := by kernel_rfl
@[simp] theorem uint113 : uint Try.prog 113 = some .u64 := by kernel_rfl
@[simp] theorem ustr113 : ustr Try.prog 113 = false := by kernel_rfl
@[simp] theorem uiface113 : uiface Try.prog 113 = some false := by kernel_rfl
@[simp] theorem uzero113 : uzero Try.prog 113 = some [.int .u64 0] := by kernel_rfl
@[simp] theorem usz114 : usz Try.prog 114 = some 1 := by kernel_rfl
@[simp] theorem ubytes114 : ubytes Try.prog 114 = some 8 := by kernel_rfl
@[simp] theorem uagg114 : uagg Try.prog 114 = some false := by kernel_rfl
@[simp] theorem uslice114 : uslice Try.prog 114 = none := by kernel_rfl
@[simp] theorem uarr114 : uarr Try.prog 114 = none := by kernel_rfl
@[simp] theorem uint114 : uint Try.prog 114 = none := by kernel_rfl
@[simp] theorem ustr114 : ustr Try.prog 114 = false := by kernel_rfl
@[simp] theorem uiface114 : uiface Try.prog 114 = some false := by kernel_rfl
@[simp] theorem uzero114 : uzero Try.prog 114 = some [.nilf] := by kernel_rfl
@[simp] theorem usz115 : usz Try.prog 115 = some 1 := by kernel_rfl
@[simp] theorem ubytes115 : ubytes Try.prog 115 = some 8 := by kernel_rfl
@[simp] theorem uagg115 : uagg Try.prog 115 = some false := by kernel_rfl
@[simp] theorem uslice115 : uslice Try.prog 115 = none := by kernel_rfl
@[simp] theorem uarr115 : uarr Try.prog 115 = none := by kernel_rfl
@[simp] theorem uint115 : uint Try.prog 115 = none := by kernel_rfl
@[simp] theorem ustr115 : ustr Try.prog 115 = false := by kernel_rfl
@[simp] theorem uiface115 : uiface Try.prog 115 = some false := by kernel_rfl
@[simp] theorem uzero115 : uzero Try.prog 115 = some [.nilf] := by kernel_rfl
@[simp] theorem usz116 : usz Try.prog 116 = some 4 := by kernel_rfl
@[simp] theorem ubytes116 : ubytes Try.prog 116 = some 40 := by kernel_rfl
@[simp] theorem uagg116 : uagg Try.prog 116 = some true := by kernel_rfl
@[simp] theorem uslice116 : uslice Try.prog 116 = none := by kernel_rfl
@[simp] theorem uarr116 : uarr Try.prog 116 = none := by kernel_rfl
@[simp] theorem uint116 : uint Try.prog 116 = none := by kernel_rfl
@[simp] theorem ustr116 : ustr Try.prog 116 = false := by kernel_rfl
@[simp] theorem uiface116 : uiface Try.prog 116 = some false := by kernel_rfl
@[simp] theorem ufield116_0 : ufield Try.prog 116 0 = some (17, 0) := by kernel_rfl
@[simp] theorem uplace116_0 : uplace Try.prog 116 0 = some (0, 1) := by kernel_rfl
@[simp] theorem ufield116_1 : ufield Try.prog 116 1 = some (17, 1) := by kernel_rfl
@[simp] theorem uplace116_1 : uplace Try.prog 116 1 = some (1, 1) := by kernel_rfl
@[simp] theorem ufield116_2 : ufield Try.prog 116 2 = some (17, 2) := by kernel_rfl
@[simp] theorem uplace116_2 : uplace Try.prog 116 2 = some (2, 1) := by kernel_rfl
@[simp] theorem ufield116_3 : ufield Try.prog 116 3 = some (9, 3) := by kernel_rfl
@[simp] theorem uplace116_3 : uplace Try.prog 116 3 = some (3, 1) := by kernel_rfl
@[simp] theorem uplaces116 : (uplaces Try.prog 116).isSome = true := by kernel_rfl
@[simp] theorem uzero116 : uzero Try.prog 116 = some [.nilp, .nilp, .nilp, .str []] := by kernel_rfl
@[simp] theorem usz117 : usz Try.prog 117 = some 4 := by kernel_rfl
@[simp] theorem ubytes117 : ubytes Try.prog 117 = some 40 := by kernel_rfl
@[simp] theorem uagg117 : uagg Try.prog 117 = some true := by kernel_rfl
@[simp] theorem uslice117 : uslice Try.prog 117 = none := by kernel_rfl
@[simp] theorem uarr117 : uarr Try.prog 117 = none := by kernel_rfl
@[simp] theorem uint117 : uint Try.prog 117 = none := by kernel_rfl
@[simp] theorem ustr117 : ustr Try.prog 117 = false := by kernel_rfl
@[simp] theorem uiface117 : uiface Try.prog 117 = some false := by kernel_rfl
@[simp] theorem ufield117_0 : ufield Try.prog 117 0 = some (17, 0) := by kernel_rfl
@[simp] theorem uplace117_0 : uplace Try.prog 117 0 = some (0, 1) := by kernel_rfl
@[simp] theorem ufield117_1 : ufield Try.prog 117 1 = some (17, 1) := by kernel_rfl
@[simp] theorem uplace117_1 : uplace Try.prog 117 1 = some (1, 1) := by kernel_rfl
@[simp] theorem ufield117_2 : ufield Try.prog 117 2 = some (17, 2) := by kernel_rfl
@[simp] theorem uplace117_2 : uplace Try.prog 117 2 = some (2, 1) := by kernel_rfl
@[simp] theorem ufield117_3 : ufield Try.prog 117 3 = some (9, 3) := by kernel_rfl
@[simp] theorem uplace117_3 : uplace Try.prog 117 3 = some (3, 1) := by kernel_rfl
@[simp] theorem uplaces117 : (uplaces Try.prog 117).isSome = true := by kernel_rfl
@[simp] theorem uzero117 : uzero Try.prog 117 = some [.nilp, .nilp, .nilp, .str []] := by kernel_rfl
@[simp] theorem usz118 : usz Try.prog 118 = some 0 := by kernel_rfl
@[simp] theorem ubytes118 : ubytes Try.prog 118 = some 0 := by kernel_rfl
@[simp] theorem uagg118 : uagg Try.prog 118 = some true := by kernel_rfl
@[simp] theorem uslice118 : uslice Try.prog 118 = none := by kernel_rfl
@[simp] theorem uarr118 : uarr Try.prog 118 = some (0, 16) := by kernel_rfl
@[simp] theorem uint118 : uint Try.prog 118 = none := by kernel_rfl
@[simp] theorem ustr118 : ustr Try.prog 118 = false := by kernel_rfl
@[simp] theorem uiface118 : uiface Try.prog 118 = some false := by kernel_rfl
@[simp] theorem uplace118 (i : Nat) : uplace Try.prog 118 i = some (i * 1, 1) := by kernel_rfl
@[simp] theorem uplaces118 : (uplaces Try.prog 118).isSome = true := by kernel_rfl
@[simp] theorem uzero118 : uzero Try.prog 118 = some [] := by kernel_rfl
@[simp] theorem usz119 : usz Try.prog 119 = some 0 := by kernel_rfl
@[simp] theorem ubytes119 : ubytes Try.prog 119 = some 0 := by kernel_rfl
@[simp] theorem uagg119 : uagg Try.prog 119 = some true := by kernel_rfl
@[simp] theorem uslice119 : uslice Try.prog 119 = none := by kernel_rfl
@[simp] theorem uarr119 : uarr Try.prog 119 = none := by kernel_rfl
@[simp] theorem uint119 : uint Try.prog 119 = none := by kernel_rfl
@[simp] theorem ustr119 : ustr Try.prog 119 = false := by kernel_rfl
@[simp] theorem uiface119 : uiface Try.prog 119 = some false := by kernel_rfl
@[simp] theorem ufield119_0 : ufield Try.prog 119 0 = some (118, 0) := by kernel_rfl
@[simp] theorem uplace119_0 : uplace Try.prog 119 0 = some (0, 0) := by kernel_rfl
@[simp] theorem uplaces119 : (uplaces Try.prog 119).isSome = true := by kernel_rfl
@[simp] theorem uzero119 : uzero Try.prog 119 = some [] := by kernel_rfl
@[simp] theorem usz120 : usz Try.prog 120 = some 0 := by kernel_rfl
@[simp] theorem ubytes120 : ubytes Try.prog 120 = some 0 := by kernel_rfl
@[simp] theorem uagg120 : uagg Try.prog 120 = some true := by kernel_rfl
@[simp] theorem uslice120 : uslice Try.prog 120 = none := by kernel_rfl
@[simp] theorem uarr120 : uarr Try.prog 120 = none := by kernel_rfl
@[simp] theorem uint120 : uint Try.prog 120 = none := by kernel_rfl
@[simp] theorem ustr120 : ustr Try.prog 120 = false := by kernel_rfl
@[simp] theorem uiface120 : uiface Try.prog 120 = some false := by kernel_rfl
@[simp] theorem ufield120_0 : ufield Try.prog 120 0 = some (118, 0) := by kernel_rfl
@[simp] theorem uplace120_0 : uplace Try.prog 120 0 = some (0, 0) := by kernel_rfl
@[simp] theorem uplaces120 : (uplaces Try.prog 120).isSome = true := by kernel_rfl
@[simp] theorem uzero120 : uzero Try.prog 120 = some [] := by kernel_rfl
@[simp] theorem usz121 : usz Try.prog 121 = some 1 := by kernel_rfl
@[simp] theorem ubytes121 : ubytes Try.prog 121 = some 1 := by kernel_rfl
@[simp] theorem uagg121 : uagg Try.prog 121 = some false := by kernel_rfl
@[simp] theorem uslice121 : uslice Try.prog 121 = none := by kernel_rfl
@[simp] theorem uarr121 : uarr Try.prog 121 = none := by kernel_rfl
@[simp] theorem uint121 : uint Try.prog 121 = some .u8 := by kernel_rfl
@[simp] theorem ustr121 : ustr Try.prog 121 = false := by kernel_rfl
@[simp] theorem uiface121 : uiface Try.prog 121 = some false := by kernel_rfl
@[simp] theorem uzero121 : uzero Try.prog 121 = some [.int .u8 0] := by kernel_rfl
@[simp] theorem usz122 : usz Try.prog 122 = some 1 := by kernel_rfl
@[simp] theorem ubytes122 : ubytes Try.prog 122 = some 1 := by kernel_rfl
@[simp] theorem uagg122 : uagg Try.prog 122 = some false := by kernel_rfl
@[simp] theorem uslice122 : uslice Try.prog 122 = none := by kernel_rfl
@[simp] theorem uarr122 : uarr Try.prog 122 = none := by kernel_rfl
@[simp] theorem uint122 : uint Try.prog 122 = some .u8 := by kernel_rfl
@[simp] theorem ustr122 : ustr Try.prog 122 = false := by kernel_rfl
@[simp] theorem uiface122 : uiface Try.prog 122 = some false := by kernel_rfl
@[simp] theorem uzero122 : uzero Try.prog 122 = some [.int .u8 0] := by kernel_rfl
@[simp] theorem usz123 : usz Try.prog 123 = some 1 := by kernel_rfl
@[simp] theorem ubytes123 : ubytes Try.prog 123 = some 8 := by kernel_rfl
@[simp] theorem uagg123 : uagg Try.prog 123 = some false := by kernel_rfl
@[simp] theorem uslice123 : uslice Try.prog 123 = none := by kernel_rfl
@[simp] theorem uarr123 : uarr Try.prog 123 = none := by kernel_rfl
@[simp] theorem uint123 : uint Try.prog 123 = none := by kernel_rfl
@[simp] theorem ustr123 : ustr Try.prog 123 = false := by kernel_rfl
@[simp] theorem uiface123 : uiface Try.prog 123 = some false := by kernel_rfl
@[simp] theorem uzero123 : uzero Try.prog 123 = some [.nilf] := by kernel_rfl
@[simp] theorem usz124 : usz Try.prog 124 = some 1 := by kernel_rfl
@[simp] theorem ubytes124 : ubytes Try.prog 124 = some 8 := by kernel_rfl
@[simp] theorem uagg124 : uagg Try.prog 124 = some false := by kernel_rfl
@[simp] theorem uslice124 : uslice Try.prog 124 = none := by kernel_rfl
@[simp] theorem uarr124 : uarr Try.prog 124 = none := by kernel_rfl
@[simp] theorem uint124 : uint Try.prog 124 = none := by kernel_rfl
@[simp] theorem ustr124 : ustr Try.prog 124 = false := by kernel_rfl
@[simp] theorem uiface124 : uiface Try.prog 124 = some false := by kernel_rfl
@[simp] theorem uptr124 : uptr Try.prog 124 = true := by kernel_rfl
@[simp] theorem uzero124 : uzero Try.prog 124 = some [.nilp] := by kernel_rfl
@[simp] theorem usz125 : usz Try.prog 125 = some 1 := by kernel_rfl
@[simp] theorem ubytes125 : ubytes Try.prog 125 = some 4 := by kernel_rfl
@[simp] theorem uagg125 : uagg Try.prog 125 = some false := by kernel_rfl
@[simp] theorem uslice125 : uslice Try.prog 125 = none := by kernel_rfl
@[simp] theorem uarr125 : uarr Try.prog 125 = none := by kernel_rfl
@[simp] theorem uint125 : uint Try.prog 125 = some .i32 := by kernel_rfl
@[simp] theorem ustr125 : ustr Try.prog 125 = false := by kernel_rfl
@[simp] theorem uiface125 : uiface Try.prog 125 = some false := by kernel_rfl
@[simp] theorem uzero125 : uzero Try.prog 125 = some [.int .i32 0] := by kernel_rfl
@[simp] theorem usz126 : usz Try.prog 126 = some 1 := by kernel_rfl
@[simp] theorem ubytes126 : ubytes Try.prog 126 = some 4 := by kernel_rfl
@[simp] theorem uagg126 : uagg Try.prog 126 = some false := by kernel_rfl
@[simp] theorem uslice126 : uslice Try.prog 126 = none := by kernel_rfl
@[simp] theorem uarr126 : uarr Try.prog 126 = none := by kernel_rfl
@[simp] theorem uint126 : uint Try.prog 126 = some .i32 := by kernel_rfl
@[simp] theorem ustr126 : ustr Try.prog 126 = false := by kernel_rfl
@[simp] theorem uiface126 : uiface Try.prog 126 = some false := by kernel_rfl
@[simp] theorem uzero126 : uzero Try.prog 126 = some [.int .i32 0] := by kernel_rfl
@[simp] theorem usz127 : usz Try.prog 127 = some 11 := by kernel_rfl
@[simp] theorem ubytes127 : ubytes Try.prog 127 = some 48 := by kernel_rfl
@[simp] theorem uagg127 : uagg Try.prog 127 = some true := by kernel_rfl
@[simp] theorem uslice127 : uslice Try.prog 127 = none := by kernel_rfl
@[simp] theorem uarr127 : uarr Try.prog 127 = none := by kernel_rfl
@[simp] theorem uint127 : uint Try.prog 127 = none := by kernel_rfl
@[simp] theorem ustr127 : ustr Try.prog 127 = false := by kernel_rfl
@[simp] theorem uiface127 : uiface Try.prog 127 = some false := by kernel_rfl
@[simp] theorem ufield127_0 : ufield Try.prog 127 0 = some (12, 0) := by kernel_rfl
@[simp] theorem uplace127_0 : uplace Try.prog 127 0 = some (0, 1) := by kernel_rfl
@[simp] theorem ufield127_1 : ufield Try.prog 127 1 = some (12, 1) := by kernel_rfl
@[simp] theorem uplace127_1 : uplace Try.prog 127 1 = some (1, 1) := by kernel_rfl
@[simp] theorem ufield127_2 : ufield Try.prog 127 2 = some (93, 2) := by kernel_rfl
@[simp] theorem uplace127_2 : uplace Try.prog 127 2 = some (2, 1) := by kernel_rfl
@[simp] theorem ufield127_3 : ufield Try.prog 127 3 = some (121, 3) := by kernel_rfl
@[simp] theorem uplace127_3 : uplace Try.prog 127 3 = some (3, 1) := by kernel_rfl
@[simp] theorem ufield127_4 : ufield Try.prog 127 4 = some (5, 4) := by kernel_rfl
@[simp] theorem uplace127_4 : uplace Try.prog 127 4 = some (4, 1) := by kernel_rfl
@[simp] theorem ufield127_5 : ufield Try.prog 127 5 = some (5, 5) := by kernel_rfl
@[simp] theorem uplace127_5 : uplace Try.prog 127 5 = some (5, 1) := by kernel_rfl
@[simp] theorem ufield127_6 : ufield Try.prog 127 6 = some (122, 6) := by kernel_rfl
@[simp] theorem uplace127_6 : uplace Try.prog 127 6 = some (6, 1) := by kernel_rfl
@[simp] theorem ufield127_7 : ufield Try.prog 127 7 = some (123, 7) := by kernel_rfl
@[simp] theorem uplace127_7 : uplace Try.prog 127 7 = some (7, 1) := by kernel_rfl
@[simp] theorem ufield127_8 : ufield Try.prog 127 8 = some (124, 8) := by kernel_rfl
@[simp] theorem uplace127_8 : uplace Try.prog 127 8 = some (8, 1) := by kernel_rfl
@[simp] theorem ufield127_9 : ufield Try.prog 127 9 = some (125, 9) := by kernel_rfl
@[simp] theorem uplace127_9 : uplace Try.prog 127 9 = some (9, 1) := by kernel_rfl
@[simp] theorem ufield127_10 : ufield Try.prog 127 10 = some (126, 10) := by kernel_rfl
@[simp] theorem uplace127_10 : uplace Try.prog 127 10 = some (10, 1) := by kernel_rfl
@[simp] theorem uplaces127 : (uplaces Try.prog 127).isSome = true := by kernel_rfl
@[simp] theorem uzero127 : uzero Try.prog 127 = some [.int .u64 0, .int .u64 0, .int .u32 0, .int .u8 0, .int .u8 0, .int .u8 0, .int .u8 0, .nilf, .nilp, .int .i32 0, .int .i32 0] := by kernel_rfl
@[simp] theorem usz128 : usz Try.prog 128 = some 11 := by kernel_rfl
@[simp] theorem ubytes128 : ubytes Try.prog 128 = some 48 := by kernel_rfl
@[simp] theorem uagg128 : uagg Try.prog 128 = some true := by kernel_rfl
@[simp] theorem uslice128 : uslice Try.prog 128 = none := by kernel_rfl
@[simp] theorem uarr128 : uarr Try.prog 128 = none := by kernel_rfl
@[simp] theorem uint128 : uint Try.prog 128 = none := by kernel_rfl
@[simp] theorem ustr128 : ustr Try.prog 128 = false := by kernel_rfl
@[simp] theorem uiface128 : uiface Try.prog 128 = some false := by kernel_rfl
@[simp] theorem ufield128_0 : ufield Try.prog 128 0 = some (12, 0) := by kernel_rfl
@[simp] theorem uplace128_0 : uplace Try.prog 128 0 = some (0, 1) := by kernel_rfl
@[simp] theorem ufield128_1 : ufield Try.prog 128 1 = some (12, 1) := by kernel_rfl
@[simp] theorem uplace128_1 : uplace Try.prog 128 1 = some (1, 1) := by kernel_rfl
@[simp] theorem ufield128_2 : ufield Try.prog 128 2 = some (93, 2) := by kernel_rfl
@[simp] theorem uplace128_2 : uplace Try.prog 128 2 = some (2, 1) := by kernel_rfl
@[simp] theorem ufield128_3 : ufield Try.prog 128 3 = some (121, 3) := by kernel_rfl
@[simp] theorem uplace128_3 : uplace Try.prog 128 3 = some (3, 1) := by kernel_rfl
@[simp] theorem ufield128_4 : ufield Try.prog 128 4 = some (5, 4) := by kernel_rfl
@[simp] theorem uplace128_4 : uplace Try.prog 128 4 = some (4, 1) := by kernel_rfl
@[simp] theorem ufield128_5 : ufield Try.prog 128 5 = some (5, 5) := by kernel_rfl
@[simp] theorem uplace128_5 : uplace Try.prog 128 5 = some (5, 1) := by kernel_rfl
@[simp] theorem ufield128_6 : ufield Try.prog 128 6 = some (122, 6) := by kernel_rfl
@[simp] theorem uplace128_6 : uplace Try.prog 128 6 = some (6, 1) := by kernel_rfl
@[simp] theorem ufield128_7 : ufield Try.prog 128 7 = some (123, 7) := by kernel_rfl
@[simp] theorem uplace128_7 : uplace Try.prog 128 7 = some (7, 1) := by kernel_rfl
@[simp] theorem ufield128_8 : ufield Try.prog 128 8 = some (124, 8) := by kernel_rfl
@[simp] theorem uplace128_8 : uplace Try.prog 128 8 = some (8, 1) := by kernel_rfl
@[simp] theorem ufield128_9 : ufield Try.prog 128 9 = some (125, 9) := by kernel_rfl
@[simp] theorem uplace128_9 : uplace Try.prog 128 9 = some (9, 1) := by kernel_rfl
@[simp] theorem ufield128_10 : ufield Try.prog 128 10 = some (126, 10) := by kernel_rfl
@[simp] theorem uplace128_10 : uplace Try.prog 128 10 = some (10, 1) := by kernel_rfl
@[simp] theorem uplaces128 : (uplaces Try.prog 128).isSome = true := by kernel_rfl
@[simp] theorem uzero128 : uzero Try.prog 128 = some [.int .u64 0, .int .u64 0, .int .u32 0, .int .u8 0, .int .u8 0, .int .u8 0, .int .u8 0, .nilf, .nilp, .int .i32 0, .int .i32 0] := by kernel_rfl
@[simp] theorem usz129 : usz Try.prog 129 = some 1 := by kernel_rfl
@[simp] theorem ubytes129 : ubytes Try.prog 129 = some 8 := by kernel_rfl
@[simp] theorem uagg129 : uagg Try.prog 129 = some false := by kernel_rfl
@[simp] theorem uslice129 : uslice Try.prog 129 = none := by kernel_rfl
@[simp] theorem uarr129 : uarr Try.prog 129 = none := by kernel_rfl
@[simp] theorem uint129 : uint Try.prog 129 = none := by kernel_rfl
@[simp] theorem ustr129 : ustr Try.prog 129 = false := by kernel_rfl
@[simp] theorem uiface129 : uiface Try.prog 129 = some false := by kernel_rfl
@[simp] theorem uzero129 : uzero Try.prog 129 = some [.nilp] := by kernel_rfl

end Go.Proofs.Ythcdofbmmibgjaa
