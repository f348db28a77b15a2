/-
  VALUE SEMANTICS: what the program's type table says, type by type. Printed by gentab.py.
  Conditions: none.
-/
import Derived.Test.YtegmenlonpgnpaaDoorGc
import Derived.Test.YtegmenlonpgnpaaDoorRows
namespace Go.Proofs.YtegmenlonpgnpaaDoor
open Go.VS

@[simp] theorem usz0 : usz Tryd.prog 0 = some 1 := by kernel_rfl
@[simp] theorem ubytes0 : ubytes Tryd.prog 0 = some 0 := by kernel_rfl
@[simp] theorem uagg0 : uagg Tryd.prog 0 = some false := by kernel_rfl
@[simp] theorem uslice0 : uslice Tryd.prog 0 = none := by kernel_rfl
@[simp] theorem uarr0 : uarr Tryd.prog 0 = none := by kernel_rfl
@[simp] theorem uint0 : uint Tryd.prog 0 = none := by kernel_rfl
@[simp] theorem ustr0 : ustr Tryd.prog 0 = false := by kernel_rfl
@[simp] theorem uiface0 : uiface Tryd.prog 0 = some false := by kernel_rfl
@[simp] theorem usz1 : usz Tryd.prog 1 = some 1 := by kernel_rfl
@[simp] theorem ubytes1 : ubytes Tryd.prog 1 = some 8 := by kernel_rfl
@[simp] theorem uagg1 : uagg Tryd.prog 1 = some false := by kernel_rfl
@[simp] theorem uslice1 : uslice Tryd.prog 1 = none := by kernel_rfl
@[simp] theorem uarr1 : uarr Tryd.prog 1 = none := by kernel_rfl
@[simp] theorem uint1 : uint Tryd.prog 1 = none := by kernel_rfl
@[simp] theorem ustr1 : ustr Tryd.prog 1 = false := by kernel_rfl
@[simp] theorem uiface1 : uiface Tryd.prog 1 = some false := by kernel_rfl
@[simp] theorem uzero1 : uzero Tryd.prog 1 = some [.nilf] := by kernel_rfl
@[simp] theorem usz2 : usz Tryd.prog 2 = some 1 := by kernel_rfl
@[simp] theorem ubytes2 : ubytes Tryd.prog 2 = some 8 := by kernel_rfl
@[simp] theorem uagg2 : uagg Tryd.prog 2 = some false := by kernel_rfl
@[simp] theorem uslice2 : uslice Tryd.prog 2 = none := by kernel_rfl
@[simp] theorem uarr2 : uarr Tryd.prog 2 = none := by kernel_rfl
@[simp] theorem uint2 : uint Tryd.prog 2 = some .i64 := by kernel_rfl
@[simp] theorem ustr2 : ustr Tryd.prog 2 = false := by kernel_rfl
@[simp] theorem uiface2 : uiface Tryd.prog 2 = some false := by kernel_rfl
@[simp] theorem uzero2 : uzero Tryd.prog 2 = some [.int .i64 0] := by kernel_rfl
@[simp] theorem usz3 : usz Tryd.prog 3 = some 1 := by kernel_rfl
@[simp] theorem ubytes3 : ubytes Tryd.prog 3 = some 8 := by kernel_rfl
@[simp] theorem uagg3 : uagg Tryd.prog 3 = some false := by kernel_rfl
@[simp] theorem uslice3 : uslice Tryd.prog 3 = none := by kernel_rfl
@[simp] theorem uarr3 : uarr Tryd.prog 3 = none := by kernel_rfl
@[simp] theorem uint3 : uint Tryd.prog 3 = some .i64 := by kernel_rfl
@[simp] theorem ustr3 : ustr Tryd.prog 3 = false := by kernel_rfl
@[simp] theorem uiface3 : uiface Tryd.prog 3 = some false := by kernel_rfl
@[simp] theorem uzero3 : uzero Tryd.prog 3 = some [.int .i64 0] := by kernel_rfl
@[simp] theorem usz4 : usz Tryd.prog 4 = some 1 := by kernel_rfl
@[simp] theorem ubytes4 : ubytes Tryd.prog 4 = some 1 := by kernel_rfl
@[simp] theorem uagg4 : uagg Tryd.prog 4 = some false := by kernel_rfl
@[simp] theorem uslice4 : uslice Tryd.prog 4 = none := by kernel_rfl
@[simp] theorem uarr4 : uarr Tryd.prog 4 = none := by kernel_rfl
@[simp] theorem uint4 : uint Tryd.prog 4 = none := by kernel_rfl
@[simp] theorem ustr4 : ustr Tryd.prog 4 = false := by kernel_rfl
@[simp] theorem uiface4 : uiface Tryd.prog 4 = some false := by kernel_rfl
@[simp] theorem ubool4 : ubool Tryd.prog 4 = true := by kernel_rfl
@[simp] theorem uzero4 : uzero Tryd.prog 4 = some [.bool false] := by kernel_rfl
@[simp] theorem usz5 : usz Tryd.prog 5 = some 1 := by kernel_rfl
@[simp] theorem ubytes5 : ubytes Tryd.prog 5 = some 1 := by kernel_rfl
@[simp] theorem uagg5 : uagg Tryd.prog 5 = some false := by kernel_rfl
@[simp] theorem uslice5 : uslice Tryd.prog 5 = none := by kernel_rfl
@[simp] theorem uarr5 : uarr Tryd.prog 5 = none := by kernel_rfl
@[simp] theorem uint5 : uint Tryd.prog 5 = some .u8 := by kernel_rfl
@[simp] theorem ustr5 : ustr Tryd.prog 5 = false := by kernel_rfl
@[simp] theorem uiface5 : uiface Tryd.prog 5 = some false := by kernel_rfl
@[simp] theorem uzero5 : uzero Tryd.prog 5 = some [.int .u8 0] := by kernel_rfl
@[simp] theorem usz6 : usz Tryd.prog 6 = some 1 := by kernel_rfl
@[simp] theorem ubytes6 : ubytes Tryd.prog 6 = some 1 := by kernel_rfl
@[simp] theorem uagg6 : uagg Tryd.prog 6 = some false := by kernel_rfl
@[simp] theorem uslice6 : uslice Tryd.prog 6 = none := by kernel_rfl
@[simp] theorem uarr6 : uarr Tryd.prog 6 = none := by kernel_rfl
@[simp] theorem uint6 : uint Tryd.prog 6 = some .u8 := by kernel_rfl
@[simp] theorem ustr6 : ustr Tryd.prog 6 = false := by kernel_rfl
@[simp] theorem uiface6 : uiface Tryd.prog 6 = some false := by kernel_rfl
@[simp] theorem uzero6 : uzero Tryd.prog 6 = some [.int .u8 0] := by kernel_rfl
@[simp] theorem usz7 : usz Tryd.prog 7 = some 4 := by kernel_rfl
@[simp] theorem ubytes7 : ubytes Tryd.prog 7 = some 24 := by kernel_rfl
@[simp] theorem uagg7 : uagg Tryd.prog 7 = some true := by kernel_rfl
@[simp] theorem uslice7 : uslice Tryd.prog 7 = none := by kernel_rfl
@[simp] theorem uarr7 : uarr Tryd.prog 7 = none := by kernel_rfl
@[simp] theorem uint7 : uint Tryd.prog 7 = none := by kernel_rfl
@[simp] theorem ustr7 : ustr Tryd.prog 7 = false := by kernel_rfl
@[simp] theorem uiface7 : uiface Tryd.prog 7 = some false := by kernel_rfl
@[simp] theorem ufield7_0 : ufield Tryd.prog 7 0 = some (2, 0) := by kernel_rfl
@[simp] theorem uplace7_0 : uplace Tryd.prog 7 0 = some (0, 1) := by kernel_rfl
@[simp] theorem ufield7_1 : ufield Tryd.prog 7 1 = some (3, 1) := by kernel_rfl
@[simp] theorem uplace7_1 : uplace Tryd.prog 7 1 = some (1, 1) := by kernel_rfl
@[simp] theorem ufield7_2 : ufield Tryd.prog 7 2 = some (4, 2) := by kernel_rfl
@[simp] theorem uplace7_2 : uplace Tryd.prog 7 2 = some (2, 1) := by kernel_rfl
@[simp] theorem ufield7_3 : ufield Tryd.prog 7 3 = some (6, 3) := by kernel_rfl
@[simp] theorem uplace7_3 : uplace Tryd.prog 7 3 = some (3, 1) := by kernel_rfl
@[simp] theorem uplaces7 : (uplaces Tryd.prog 7).isSome = true := by kernel_rfl
@[simp] theorem uzero7 : uzero Tryd.prog 7 = some [.int .i64 0, .int .i64 0, .bool false, .int .u8 0] := by kernel_rfl
@[simp] theorem usz8 : usz Tryd.prog 8 = some 4 := by kernel_rfl
@[simp] theorem ubytes8 : ubytes Tryd.prog 8 = some 24 := by kernel_rfl
@[simp] theorem uagg8 : uagg Tryd.prog 8 = some true := by kernel_rfl
@[simp] theorem uslice8 : uslice Tryd.prog 8 = none := by kernel_rfl
@[simp] theorem uarr8 : uarr Tryd.prog 8 = none := by kernel_rfl
@[simp] theorem uint8 : uint Tryd.prog 8 = none := by kernel_rfl
@[simp] theorem ustr8 : ustr Tryd.prog 8 = false := by kernel_rfl
@[simp] theorem uiface8 : uiface Tryd.prog 8 = some false := by kernel_rfl
@[simp] theorem ufield8_0 : ufield Tryd.prog 8 0 = some (2, 0) := by kernel_rfl
@[simp] theorem uplace8_0 : uplace Tryd.prog 8 0 = some (0, 1) := by kernel_rfl
@[simp] theorem ufield8_1 : ufield Tryd.prog 8 1 = some (3, 1) := by kernel_rfl
@[simp] theorem uplace8_1 : uplace Tryd.prog 8 1 = some (1, 1) := by kernel_rfl
@[simp] theorem ufield8_2 : ufield Tryd.prog 8 2 = some (4, 2) := by kernel_rfl
@[simp] theorem uplace8_2 : uplace Tryd.prog 8 2 = some (2, 1) := by kernel_rfl
@[simp] theorem ufield8_3 : ufield Tryd.prog 8 3 = some (6, 3) := by kernel_rfl
@[simp] theorem uplace8_3 : uplace Tryd.prog 8 3 = some (3, 1) := by kernel_rfl
@[simp] theorem uplaces8 : (uplaces Tryd.prog 8).isSome = true := by kernel_rfl
@[simp] theorem uzero8 : uzero Tryd.prog 8 = some [.int .i64 0, .int .i64 0, .bool false, .int .u8 0] := by kernel_rfl
@[simp] theorem usz9 : usz Tryd.prog 9 = some 1 := by kernel_rfl
@[simp] theorem ubytes9 : ubytes Tryd.prog 9 = some 16 := by kernel_rfl
@[simp] theorem uagg9 : uagg Tryd.prog 9 = some false := by kernel_rfl
@[simp] theorem uslice9 : uslice Tryd.prog 9 = none := by kernel_rfl
@[simp] theorem uarr9 : uarr Tryd.prog 9 = none := by kernel_rfl
@[simp] theorem uint9 : uint Tryd.prog 9 = none := by kernel_rfl
@[simp] theorem ustr9 : ustr Tryd.prog 9 = true := by kernel_rfl
@[simp] theorem uiface9 : uiface Tryd.prog 9 = some false := by kernel_rfl
@[simp] theorem uzero9 : uzero Tryd.prog 9 = some [.str []] := by kernel_rfl
@[simp] theorem usz10 : usz Tryd.prog 10 = some 1 := by kernel_rfl
@[simp] theorem ubytes10 : ubytes Tryd.prog 10 = some 16 := by kernel_rfl
@[simp] theorem uagg10 : uagg Tryd.prog 10 = some false := by kernel_rfl
@[simp] theorem uslice10 : uslice Tryd.prog 10 = none := by kernel_rfl
@[simp] theorem uarr10 : uarr Tryd.prog 10 = none := by kernel_rfl
@[simp] theorem uint10 : uint Tryd.prog 10 = none := by kernel_rfl
@[simp] theorem ustr10 : ustr Tryd.prog 10 = true := by kernel_rfl
@[simp] theorem uiface10 : uiface Tryd.prog 10 = some false := by kernel_rfl
@[simp] theorem uzero10 : uzero Tryd.prog 10 = some [.str []] := by kernel_rfl
@[simp] theorem usz11 : usz Tryd.prog 11 = some 1 := by kernel_rfl
@[simp] theorem ubytes11 : ubytes Tryd.prog 11 = some 16 := by kernel_rfl
@[simp] theorem uagg11 : uagg Tryd.prog 11 = some false := by kernel_rfl
@[simp] theorem uslice11 : uslice Tryd.prog 11 = none := by kernel_rfl
@[simp] theorem uarr11 : uarr Tryd.prog 11 = none := by kernel_rfl
@[simp] theorem uint11 : uint Tryd.prog 11 = none := by kernel_rfl
@[simp] theorem ustr11 : ustr Tryd.prog 11 = true := by kernel_rfl
@[simp] theorem uiface11 : uiface Tryd.prog 11 = some false := by kernel_rfl
@[simp] theorem uzero11 : uzero Tryd.prog 11 = some [.str []] := by kernel_rfl
@[simp] theorem usz12 : usz Tryd.prog 12 = some 1 := by kernel_rfl
@[simp] theorem ubytes12 : ubytes Tryd.prog 12 = some 8 := by kernel_rfl
@[simp] theorem uagg12 : uagg Tryd.prog 12 = some false := by kernel_rfl
@[simp] theorem uslice12 : uslice Tryd.prog 12 = none := by kernel_rfl
@[simp] theorem uarr12 : uarr Tryd.prog 12 = none := by kernel_rfl
@[simp] theorem uint12 : uint Tryd.prog 12 = some .u64 := by kernel_rfl
@[simp] theorem ustr12 : ustr Tryd.prog 12 = false := by kernel_rfl
@[simp] theorem uiface12 : uiface Tryd.prog 12 = some false := by kernel_rfl
@[simp] theorem uzero12 : uzero Tryd.prog 12 = some [.int .u64 0] := by kernel_rfl
@[simp] theorem usz13 : usz Tryd.prog 13 = some 2 := by kernel_rfl
@[simp] theorem ubytes13 : ubytes Tryd.prog 13 = some 24 := by kernel_rfl
@[simp] theorem uagg13 : uagg Tryd.prog 13 = some true := by kernel_rfl
@[simp] theorem uslice13 : uslice Tryd.prog 13 = none := by kernel_rfl
@[simp] theorem uarr13 : uarr Tryd.prog 13 = none := by kernel_rfl
@[simp] theorem uint13 : uint Tryd.prog 13 = none := by kernel_rfl
@[simp] theorem ustr13 : ustr Tryd.prog 13 = false := by kernel_rfl
@[simp] theorem uiface13 : uiface Tryd.prog 13 = some false := by kernel_rfl
@[simp] theorem ufield13_0 : ufield Tryd.prog 13 0 = some (9, 0) := by kernel_rfl
@[simp] theorem uplace13_0 : uplace Tryd.prog 13 0 = some (0, 1) := by kernel_rfl
@[simp] theorem ufield13_1 : ufield Tryd.prog 13 1 = some (12, 1) := by kernel_rfl
@[simp] theorem uplace13_1 : uplace Tryd.prog 13 1 = some (1, 1) := by kernel_rfl
@[simp] theorem uplaces13 : (uplaces Tryd.prog 13).isSome = true := by kernel_rfl
@[simp] theorem uzero13 : uzero Tryd.prog 13 = some [.str [], .int .u64 0] := by kernel_rfl
@[simp] theorem usz14 : usz Tryd.prog 14 = some 2 := by kernel_rfl
@[simp] theorem ubytes14 : ubytes Tryd.prog 14 = some 24 := by kernel_rfl
@[simp] theorem uagg14 : uagg Tryd.prog 14 = some true := by kernel_rfl
@[simp] theorem uslice14 : uslice Tryd.prog 14 = none := by kernel_rfl
@[simp] theorem uarr14 : uarr Tryd.prog 14 = none := by kernel_rfl
@[simp] theorem uint14 : uint Tryd.prog 14 = none := by kernel_rfl
@[simp] theorem ustr14 : ustr Tryd.prog 14 = false := by kernel_rfl
@[simp] theorem uiface14 : uiface Tryd.prog 14 = some false := by kernel_rfl
@[simp] theorem ufield14_0 : ufield Tryd.prog 14 0 = some (9, 0) := by kernel_rfl
@[simp] theorem uplace14_0 : uplace Tryd.prog 14 0 = some (0, 1) := by kernel_rfl
@[simp] theorem ufield14_1 : ufield Tryd.prog 14 1 = some (12, 1) := by kernel_rfl
@[simp] theorem uplace14_1 : uplace Tryd.prog 14 1 = some (1, 1) := by kernel_rfl
@[simp] theorem uplaces14 : (uplaces Tryd.prog 14).isSome = true := by kernel_rfl
@[simp] theorem uzero14 : uzero Tryd.prog 14 = some [.str [], .int .u64 0] := by kernel_rfl
@[simp] theorem usz15 : usz Tryd.prog 15 = some 1 := by kernel_rfl
@[simp] theorem ubytes15 : ubytes Tryd.prog 15 = some 8 := by kernel_rfl
@[simp] theorem uagg15 : uagg Tryd.prog 15 = some false := by kernel_rfl
@[simp] theorem uslice15 : uslice Tryd.prog 15 = none := by kernel_rfl
@[simp] theorem uarr15 : uarr Tryd.prog 15 = none := by kernel_rfl
@[simp] theorem uint15 : uint Tryd.prog 15 = none := by kernel_rfl
@[simp] theorem ustr15 : ustr Tryd.prog 15 = false := by kernel_rfl
@[simp] theorem uiface15 : uiface Tryd.prog 15 = some false := by kernel_rfl
@[simp] theorem uptr15 : uptr Tryd.prog 15 = true := by kernel_rfl
@[simp] theorem uzero15 : uzero Tryd.prog 15 = some [.nilp] := by kernel_rfl
@[simp] theorem usz16 : usz Tryd.prog 16 = some 1 := by kernel_rfl
@[simp] theorem ubytes16 : ubytes Tryd.prog 16 = some 8 := by kernel_rfl
@[simp] theorem uagg16 : uagg Tryd.prog 16 = some false := by kernel_rfl
@[simp] theorem uslice16 : uslice Tryd.prog 16 = none := by kernel_rfl
@[simp] theorem uarr16 : uarr Tryd.prog 16 = none := by kernel_rfl
@[simp] theorem uint16 : uint Tryd.prog 16 = none := by kernel_rfl
@[simp] theorem ustr16 : ustr Tryd.prog 16 = false := by kernel_rfl
@[simp] theorem uiface16 : uiface Tryd.prog 16 = some false := by kernel_rfl
@[simp] theorem uptr16 : uptr Tryd.prog 16 = true := by kernel_rfl
@[simp] theorem uzero16 : uzero Tryd.prog 16 = some [.nilp] := by kernel_rfl
@[simp] theorem usz17 : usz Tryd.prog 17 = some 1 := by kernel_rfl
@[simp] theorem ubytes17 : ubytes Tryd.prog 17 = some 8 := by kernel_rfl
@[simp] theorem uagg17 : uagg Tryd.prog 17 = some false := by kernel_rfl
@[simp] theorem uslice17 : uslice Tryd.prog 17 = none := by kernel_rfl
@[simp] theorem uarr17 : uarr Tryd.prog 17 = none := by kernel_rfl
@[simp] theorem uint17 : uint Tryd.prog 17 = none := by kernel_rfl
@[simp] theorem ustr17 : ustr Tryd.prog 17 = false := by kernel_rfl
@[simp] theorem uiface17 : uiface Tryd.prog 17 = some false := by kernel_rfl
@[simp] theorem uptr17 : uptr Tryd.prog 17 = true := by kernel_rfl
@[simp] theorem uzero17 : uzero Tryd.prog 17 = some [.nilp] := by kernel_rfl
@[simp] theorem usz18 : usz Tryd.prog 18 = some 1 := by kernel_rfl
@[simp] theorem ubytes18 : ubytes Tryd.prog 18 = some 8 := by kernel_rfl
@[simp] theorem uagg18 : uagg Tryd.prog 18 = some true := by kernel_rfl
@[simp] theorem uslice18 : uslice Tryd.prog 18 = none := by kernel_rfl
@[simp] theorem uarr18 : uarr Tryd.prog 18 = none := by kernel_rfl
@[simp] theorem uint18 : uint Tryd.prog 18 = none := by kernel_rfl
@[simp] theorem ustr18 : ustr Tryd.prog 18 = false := by kernel_rfl
@[simp] theorem uiface18 : uiface Tryd.prog 18 = some false := by kernel_rfl
@[simp] theorem ufield18_0 : ufield Tryd.prog 18 0 = some (17, 0) := by kernel_rfl
@[simp] theorem uplace18_0 : uplace Tryd.prog 18 0 = some (0, 1) := by kernel_rfl
@[simp] theorem uplaces18 : (uplaces Tryd.prog 18).isSome = true := by kernel_rfl
@[simp] theorem uzero18 : uzero Tryd.prog 18 = some [.nilp] := by kernel_rfl
@[simp] theorem usz19 : usz Tryd.prog 19 = some 1 := by kernel_rfl
@[simp] theorem ubytes19 : ubytes Tryd.prog 19 = some 8 := by kernel_rfl
@[simp] theorem uagg19 : uagg Tryd.prog 19 = some true := by kernel_rfl
@[simp] theorem uslice19 : uslice Tryd.prog 19 = none := by kernel_rfl
@[simp] theorem uarr19 : uarr Tryd.prog 19 = none := by kernel_rfl
@[simp] theorem uint19 : uint Tryd.prog 19 = none := by kernel_rfl
@[simp] theorem ustr19 : ustr Tryd.prog 19 = false := by kernel_rfl
@[simp] theorem uiface19 : uiface Tryd.prog 19 = some false := by kernel_rfl
@[simp] theorem ufield19_0 : ufield Tryd.prog 19 0 = some (17, 0) := by kernel_rfl
@[simp] theorem uplace19_0 : uplace Tryd.prog 19 0 = some (0, 1) := by kernel_rfl
@[simp] theorem uplaces19 : (uplaces Tryd.prog 19).isSome = true := by kernel_rfl
@[simp] theorem uzero19 : uzero Tryd.prog 19 = some [.nilp] := by kernel_rfl
@[simp] theorem usz20 : usz Tryd.prog 20 = some 1 := by kernel_rfl
@[simp] theorem ubytes20 : ubytes Tryd.prog 20 = some 16 := by kernel_rfl
@[simp] theorem uagg20 : uagg Tryd.prog 20 = some false := by kernel_rfl
@[simp] theorem uslice20 : uslice Tryd.prog 20 = none := by kernel_rfl
@[simp] theorem uarr20 : uarr Tryd.prog 20 = none := by kernel_rfl
@[simp] theorem uint20 : uint Tryd.prog 20 = none := by kernel_rfl
@[simp] theorem ustr20 : ustr Tryd.prog 20 = false := by kernel_rfl
@[simp] theorem uiface20 : uiface Tryd.prog 20 = some true := by kernel_rfl
@[simp] theorem uzero20 : uzero Tryd.prog 20 = some [.niface] := by kernel_rfl
@[simp] theorem usz21 : usz Tryd.prog 21 = some 1 := by kernel_rfl
@[simp] theorem ubytes21 : ubytes Tryd.prog 21 = some 4 := by kernel_rfl
@[simp] theorem uagg21 : uagg Tryd.prog 21 = some false := by kernel_rfl
@[simp] theorem uslice21 : uslice Tryd.prog 21 = none := by kernel_rfl
@[simp] theorem uarr21 : uarr Tryd.prog 21 = none := by kernel_rfl
@[simp] theorem uint21 : uint Tryd.prog 21 = some .i32 := by kernel_rfl
@[simp] theorem ustr21 : ustr Tryd.prog 21 = false := by kernel_rfl
@[simp] theorem uiface21 : uiface Tryd.prog 21 = some false := by kernel_rfl
@[simp] theorem uzero21 : uzero Tryd.prog 21 = some [.int .i32 0] := by kernel_rfl
@[simp] theorem usz22 : usz Tryd.prog 22 = some 1 := by kernel_rfl
@[simp] theorem ubytes22 : ubytes Tryd.prog 22 = some 24 := by kernel_rfl
@[simp] theorem uagg22 : uagg Tryd.prog 22 = some false := by kernel_rfl
@[simp] theorem uslice22 : uslice Tryd.prog 22 = some 5 := by kernel_rfl
@[simp] theorem uarr22 : uarr Tryd.prog 22 = none := by kernel_rfl
@[simp] theorem uint22 : uint Tryd.prog 22 = none := by kernel_rfl
@[simp] theorem ustr22 : ustr Tryd.prog 22 = false := by kernel_rfl
@[simp] theorem uiface22 : uiface Tryd.prog 22 = some false := by kernel_rfl
@[simp] theorem uzero22 : uzero Tryd.prog 22 = some [.nils] := by kernel_rfl
@[simp] theorem usz23 : usz Tryd.prog 23 = some 1 := by kernel_rfl
@[simp] theorem ubytes23 : ubytes Tryd.prog 23 = some 8 := by kernel_rfl
@[simp] theorem uagg23 : uagg Tryd.prog 23 = some false := by kernel_rfl
@[simp] theorem uslice23 : uslice Tryd.prog 23 = none := by kernel_rfl
@[simp] theorem uarr23 : uarr Tryd.prog 23 = none := by kernel_rfl
@[simp] theorem uint23 : uint Tryd.prog 23 = none := by kernel_rfl
@[simp] theorem ustr23 : ustr Tryd.prog 23 = false := by kernel_rfl
@[simp] theorem uiface23 : uiface Tryd.prog 23 = some false := by kernel_rfl
@[simp] theorem uzero23 : uzero Tryd.prog 23 = some [.nilf] := by kernel_rfl
@[simp] theorem usz24 : usz Tryd.prog 24 = some 1 := by kernel_rfl
@[simp] theorem ubytes24 : ubytes Tryd.prog 24 = some 8 := by kernel_rfl
@[simp] theorem uagg24 : uagg Tryd.prog 24 = some false := by kernel_rfl
@[simp] theorem uslice24 : uslice Tryd.prog 24 = none := by kernel_rfl
@[simp] theorem uarr24 : uarr Tryd.prog 24 = none := by kernel_rfl
@[simp] theorem uint24 : uint Tryd.prog 24 = none := by kernel_rfl
@[simp] theorem ustr24 : ustr Tryd.prog 24 = false := by kernel_rfl
@[simp] theorem uiface24 : uiface Tryd.prog 24 = some false := by kernel_rfl
@[simp] theorem uzero24 : uzero Tryd.prog 24 = some [.nilf] := by kernel_rfl
@[simp] theorem usz25 : usz Tryd.prog 25 = some 1 := by kernel_rfl
@[simp] theorem ubytes25 : ubytes Tryd.prog 25 = some 24 := by kernel_rfl
@[simp] theorem uagg25 : uagg Tryd.prog 25 = some false := by kernel_rfl
@[simp] theorem uslice25 : uslice Tryd.prog 25 = some 9 := by kernel_rfl
@[simp] theorem uarr25 : uarr Tryd.prog 25 = none := by kernel_rfl
@[simp] theorem uint25 : uint Tryd.prog 25 = none := by kernel_rfl
@[simp] theorem ustr25 : ustr Tryd.prog 25 = false := by kernel_rfl
@[simp] theorem uiface25 : uiface Tryd.prog 25 = some false := by kernel_rfl
@[simp] theorem uzero25 : uzero Tryd.prog 25 = some [.nils] := by kernel_rfl
@[simp] theorem usz26 : usz Tryd.prog 26 = some 1 := by kernel_rfl
@[simp] theorem ubytes26 : ubytes Tryd.prog 26 = some 8 := by kernel_rfl
@[simp] theorem uagg26 : uagg Tryd.prog 26 = some false := by kernel_rfl
@[simp] theorem uslice26 : uslice Tryd.prog 26 = none := by kernel_rfl
@[simp] theorem uarr26 : uarr Tryd.prog 26 = none := by kernel_rfl
@[simp] theorem uint26 : uint Tryd.prog 26 = none := by kernel_rfl
@[simp] theorem ustr26 : ustr Tryd.prog 26 = false := by kernel_rfl
@[simp] theorem uiface26 : uiface Tryd.prog 26 = some false := by kernel_rfl
@[simp] theorem uzero26 : uzero Tryd.prog 26 = some [.nilf] := by kernel_rfl
@[simp] theorem usz27 : usz Tryd.prog 27 = some 1 := by kernel_rfl
@[simp] theorem ubytes27 : ubytes Tryd.prog 27 = some 8 := by kernel_rfl
@[simp] theorem uagg27 : uagg Tryd.prog 27 = some false := by kernel_rfl
@[simp] theorem uslice27 : uslice Tryd.prog 27 = none := by kernel_rfl
@[simp] theorem uarr27 : uarr Tryd.prog 27 = none := by kernel_rfl
@[simp] theorem uint27 : uint Tryd.prog 27 = none := by kernel_rfl
@[simp] theorem ustr27 : ustr Tryd.prog 27 = false := by kernel_rfl
@[simp] theorem uiface27 : uiface Tryd.prog 27 = some false := by kernel_rfl
@[simp] theorem uzero27 : uzero Tryd.prog 27 = some [.nilf] := by kernel_rfl
@[simp] theorem usz28 : usz Tryd.prog 28 = some 1 := by kernel_rfl
@[simp] theorem ubytes28 : ubytes Tryd.prog 28 = some 8 := by kernel_rfl
@[simp] theorem uagg28 : uagg Tryd.prog 28 = some false := by kernel_rfl
@[simp] theorem uslice28 : uslice Tryd.prog 28 = none := by kernel_rfl
@[simp] theorem uarr28 : uarr Tryd.prog 28 = none := by kernel_rfl
@[simp] theorem uint28 : uint Tryd.prog 28 = none := by kernel_rfl
@[simp] theorem ustr28 : ustr Tryd.prog 28 = false := by kernel_rfl
@[simp] theorem uiface28 : uiface Tryd.prog 28 = some false := by kernel_rfl
@[simp] theorem uzero28 : uzero Tryd.prog 28 = some [.nilf] := by kernel_rfl
@[simp] theorem usz29 : usz Tryd.prog 29 = some 2 := by kernel_rfl
@[simp] theorem ubytes29 : ubytes Tryd.prog 29 = some 32 := by kernel_rfl
@[simp] theorem uagg29 : uagg Tryd.prog 29 = some true := by kernel_rfl
@[simp] theorem uslice29 : uslice Tryd.prog 29 = none := by kernel_rfl
@[simp] theorem uarr29 : uarr Tryd.prog 29 = some (2, 9) := by kernel_rfl
@[simp] theorem uint29 : uint Tryd.prog 29 = none := by kernel_rfl
@[simp] theorem ustr29 : ustr Tryd.prog 29 = false := by kernel_rfl
@[simp] theorem uiface29 : uiface Tryd.prog 29 = some false := by kernel_rfl
@[simp] theorem uplace29 (i : Nat) : uplace Tryd.prog 29 i = some (i * 1, 1) := by kernel_rfl
@[simp] theorem uplaces29 : (uplaces Tryd.prog 29).isSome = true := by kernel_rfl
@[simp] theorem uzero29 : uzero Tryd.prog 29 = some [.str [], .str []] := by kernel_rfl
@[simp] theorem usz30 : usz Tryd.prog 30 = some 1 := by kernel_rfl
@[simp] theorem ubytes30 : ubytes Tryd.prog 30 = some 8 := by kernel_rfl
@[simp] theorem uagg30 : uagg Tryd.prog 30 = some false := by kernel_rfl
@[simp] theorem uslice30 : uslice Tryd.prog 30 = none := by kernel_rfl
@[simp] theorem uarr30 : uarr Tryd.prog 30 = none := by kernel_rfl
@[simp] theorem uint30 : uint Tryd.prog 30 = none := by kernel_rfl
@[simp] theorem ustr30 : ustr Tryd.prog 30 = false := by kernel_rfl
@[simp] theorem uiface30 : uiface Tryd.prog 30 = some false := by kernel_rfl
@[simp] theorem uzero30 : uzero Tryd.prog 30 = some [.nilf] := by kernel_rfl
@[simp] theorem usz31 : usz Tryd.prog 31 = some 1 := by kernel_rfl
@[simp] theorem ubytes31 : ubytes Tryd.prog 31 = some 24 := by kernel_rfl
@[simp] theorem uagg31 : uagg Tryd.prog 31 = some false := by kernel_rfl
@[simp] theorem uslice31 : uslice Tryd.prog 31 = some 29 := by kernel_rfl
@[simp] theorem uarr31 : uarr Tryd.prog 31 = none := by kernel_rfl
@[simp] theorem uint31 : uint Tryd.prog 31 = none := by kernel_rfl
@[simp] theorem ustr31 : ustr Tryd.prog 31 = false := by kernel_rfl
@[simp] theorem uiface31 : uiface Tryd.prog 31 = some false := by kernel_rfl
@[simp] theorem uzero31 : uzero Tryd.prog 31 = some [.nils] := by kernel_rfl
@[simp] theorem usz32 : usz Tryd.prog 32 = some 1 := by kernel_rfl
@[simp] theorem ubytes32 : ubytes Tryd.prog 32 = some 8 := by kernel_rfl
@[simp] theorem uagg32 : uagg Tryd.prog 32 = some false := by kernel_rfl
@[simp] theorem uslice32 : uslice Tryd.prog 32 = none := by kernel_rfl
@[simp] theorem uarr32 : uarr Tryd.prog 32 = none := by kernel_rfl
@[simp] theorem uint32 : uint Tryd.prog 32 = none := by kernel_rfl
@[simp] theorem ustr32 : ustr Tryd.prog 32 = false := by kernel_rfl
@[simp] theorem uiface32 : uiface Tryd.prog 32 = some false := by kernel_rfl
@[simp] theorem uzero32 : uzero Tryd.prog 32 = some [.nilf] := by kernel_rfl
@[simp] theorem usz33 : usz Tryd.prog 33 = some 1 := by kernel_rfl
@[simp] theorem ubytes33 : ubytes Tryd.prog 33 = some 8 := by kernel_rfl
@[simp] theorem uagg33 : uagg Tryd.prog 33 = some false := by kernel_rfl
@[simp] theorem uslice33 : uslice Tryd.prog 33 = none := by kernel_rfl
@[simp] theorem uarr33 : uarr Tryd.prog 33 = none := by kernel_rfl
@[simp] theorem uint33 : uint Tryd.prog 33 = none := by kernel_rfl
@[simp] theorem ustr33 : ustr Tryd.prog 33 = false := by kernel_rfl
@[simp] theorem uiface33 : uiface Tryd.prog 33 = some false := by kernel_rfl
@[simp] theorem uzero33 : uzero Tryd.prog 33 = some [.nilf] := by kernel_rfl
@[simp] theorem usz34 : usz Tryd.prog 34 = some 1 := by kernel_rfl
@[simp] theorem ubytes34 : ubytes Tryd.prog 34 = some 8 := by kernel_rfl
@[simp] theorem uagg34 : uagg Tryd.prog 34 = some false := by kernel_rfl
@[simp] theorem uslice34 : uslice Tryd.prog 34 = none := by kernel_rfl
@[simp] theorem uarr34 : uarr Tryd.prog 34 = none := by kernel_rfl
@[simp] theorem uint34 : uint Tryd.prog 34 = none := by kernel_rfl
@[simp] theorem ustr34 : ustr Tryd.prog 34 = false := by kernel_rfl
@[simp] theorem uiface34 : uiface Tryd.prog 34 = some false := by kernel_rfl
@[simp] theorem uzero34 : uzero Tryd.prog 34 = some [.nilf] := by kernel_rfl
@[simp] theorem usz35 : usz Tryd.prog 35 = some 1 := by kernel_rfl
@[simp] theorem ubytes35 : ubytes Tryd.prog 35 = some 8 := by kernel_rfl
@[simp] theorem uagg35 : uagg Tryd.prog 35 = some false := by kernel_rfl
@[simp] theorem uslice35 : uslice Tryd.prog 35 = none := by kernel_rfl
@[simp] theorem uarr35 : uarr Tryd.prog 35 = none := by kernel_rfl
@[simp] theorem uint35 : uint Tryd.prog 35 = none := by kernel_rfl
@[simp] theorem ustr35 : ustr Tryd.prog 35 = false := by kernel_rfl
@[simp] theorem uiface35 : uiface Tryd.prog 35 = some false := by kernel_rfl
@[simp] theorem uzero35 : uzero Tryd.prog 35 = some [.nilf] := by kernel_rfl
@[simp] theorem usz36 : usz Tryd.prog 36 = some 1 := by kernel_rfl
@[simp] theorem ubytes36 : ubytes Tryd.prog 36 = some 8 := by kernel_rfl
@[simp] theorem uagg36 : uagg Tryd.prog 36 = some false := by kernel_rfl
@[simp] theorem uslice36 : uslice Tryd.prog 36 = none := by kernel_rfl
@[simp] theorem uarr36 : uarr Tryd.prog 36 = none := by kernel_rfl
@[simp] theorem uint36 : uint Tryd.prog 36 = none := by kernel_rfl
@[simp] theorem ustr36 : ustr Tryd.prog 36 = false := by kernel_rfl
@[simp] theorem uiface36 : uiface Tryd.prog 36 = some false := by kernel_rfl
@[simp] theorem uzero36 : uzero Tryd.prog 36 = some [.nilf] := by kernel_rfl
@[simp] theorem usz37 : usz Tryd.prog 37 = some 1 := by kernel_rfl
@[simp] theorem ubytes37 : ubytes Tryd.prog 37 = some 8 := by kernel_rfl
@[simp] theorem uagg37 : uagg Tryd.prog 37 = some false := by kernel_rfl
@[simp] theorem uslice37 : uslice Tryd.prog 37 = none := by kernel_rfl
@[simp] theorem uarr37 : uarr Tryd.prog 37 = none := by kernel_rfl
@[simp] theorem uint37 : uint Tryd.prog 37 = none := by kernel_rfl
@[simp] theorem ustr37 : ustr Tryd.prog 37 = false := by kernel_rfl
@[simp] theorem uiface37 : uiface Tryd.prog 37 = some false := by kernel_rfl
@[simp] theorem uzero37 : uzero Tryd.prog 37 = some [.nilf] := by kernel_rfl
@[simp] theorem usz38 : usz Tryd.prog 38 = some 1 := by kernel_rfl
@[simp] theorem ubytes38 : ubytes Tryd.prog 38 = some 8 := by kernel_rfl
@[simp] theorem uagg38 : uagg Tryd.prog 38 = some false := by kernel_rfl
@[simp] theorem uslice38 : uslice Tryd.prog 38 = none := by kernel_rfl
@[simp] theorem uarr38 : uarr Tryd.prog 38 = none := by kernel_rfl
@[simp] theorem uint38 : uint Tryd.prog 38 = none := by kernel_rfl
@[simp] theorem ustr38 : ustr Tryd.prog 38 = false := by kernel_rfl
@[simp] theorem uiface38 : uiface Tryd.prog 38 = some false := by kernel_rfl
@[simp] theorem uzero38 : uzero Tryd.prog 38 = some [.nilf] := by kernel_rfl
@[simp] theorem usz39 : usz Tryd.prog 39 = some 1 := by kernel_rfl
@[simp] theorem ubytes39 : ubytes Tryd.prog 39 = some 8 := by kernel_rfl
@[simp] theorem uagg39 : uagg Tryd.prog 39 = some false := by kernel_rfl
@[simp] theorem uslice39 : uslice Tryd.prog 39 = none := by kernel_rfl
@[simp] theorem uarr39 : uarr Tryd.prog 39 = none := by kernel_rfl
@[simp] theorem uint39 : uint Tryd.prog 39 = none := by kernel_rfl
@[simp] theorem ustr39 : ustr Tryd.prog 39 = false := by kernel_rfl
@[simp] theorem uiface39 : uiface Tryd.prog 39 = some false := by kernel_rfl
@[simp] theorem uzero39 : uzero Tryd.prog 39 = some [.nilf] := by kernel_rfl
@[simp] theorem usz40 : usz Tryd.prog 40 = some 1 := by kernel_rfl
@[simp] theorem ubytes40 : ubytes Tryd.prog 40 = some 8 := by kernel_rfl
@[simp] theorem uagg40 : uagg Tryd.prog 40 = some false := by kernel_rfl
@[simp] theorem uslice40 : uslice Tryd.prog 40 = none := by kernel_rfl
@[simp] theorem uarr40 : uarr Tryd.prog 40 = none := by kernel_rfl
@[simp] theorem uint40 : uint Tryd.prog 40 = none := by kernel_rfl
@[simp] theorem ustr40 : ustr Tryd.prog 40 = false := by kernel_rfl
@[simp] theorem uiface40 : uiface Tryd.prog 40 = some false := by kernel_rfl
@[simp] theorem uzero40 : uzero Tryd.prog 40 = some [.nilf] := by kernel_rfl
@[simp] theorem usz41 : usz Tryd.prog 41 = some 1 := by kernel_rfl
@[simp] theorem ubytes41 : ubytes Tryd.prog 41 = some 8 := by kernel_rfl
@[simp] theorem uagg41 : uagg Tryd.prog 41 = some false := by kernel_rfl
@[simp] theorem uslice41 : uslice Tryd.prog 41 = none := by kernel_rfl
@[simp] theorem uarr41 : uarr Tryd.prog 41 = none := by kernel_rfl
@[simp] theorem uint41 : uint Tryd.prog 41 = none := by kernel_rfl
@[simp] theorem ustr41 : ustr Tryd.prog 41 = false := by kernel_rfl
@[simp] theorem uiface41 : uiface Tryd.prog 41 = some false := by kernel_rfl
@[simp] theorem uzero41 : uzero Tryd.prog 41 = some [.nilf] := by kernel_rfl
@[simp] theorem usz42 : usz Tryd.prog 42 = some 1 := by kernel_rfl
@[simp] theorem ubytes42 : ubytes Tryd.prog 42 = some 0 := by kernel_rfl
@[simp] theorem uagg42 : uagg Tryd.prog 42 = some false := by kernel_rfl
@[simp] theorem uslice42 : uslice Tryd.prog 42 = none := by kernel_rfl
@[simp] theorem uarr42 : uarr Tryd.prog 42 = none := by kernel_rfl
@[simp] theorem uint42 : uint Tryd.prog 42 = none := by kernel_rfl
@[simp] theorem ustr42 : ustr Tryd.prog 42 = false := by kernel_rfl
@[simp] theorem uiface42 : uiface Tryd.prog 42 = some false := by kernel_rfl
@[simp] theorem usz43 : usz Tryd.prog 43 = some 1 := by kernel_rfl
@[simp] theorem ubytes43 : ubytes Tryd.prog 43 = some 8 := by kernel_rfl
@[simp] theorem uagg43 : uagg Tryd.prog 43 = some false := by kernel_rfl
@[simp] theorem uslice43 : uslice Tryd.prog 43 = none := by kernel_rfl
@[simp] theorem uarr43 : uarr Tryd.prog 43 = none := by kernel_rfl
@[simp] theorem uint43 : uint Tryd.prog 43 = none := by kernel_rfl
@[simp] theorem ustr43 : ustr Tryd.prog 43 = false := by kernel_rfl
@[simp] theorem uiface43 : uiface Tryd.prog 43 = some false := by kernel_rfl
@[simp] theorem uzero43 : uzero Tryd.prog 43 = some [.nilf] := by kernel_rfl
@[simp] theorem usz44 : usz Tryd.prog 44 = some 1 := by kernel_rfl
@[simp] theorem ubytes44 : ubytes Tryd.prog 44 = some 0 := by kernel_rfl
@[simp] theorem uagg44 : uagg Tryd.prog 44 = some false := by kernel_rfl
@[simp] theorem uslice44 : uslice Tryd.prog 44 = none := by kernel_rfl
@[simp] theorem uarr44 : uarr Tryd.prog 44 = none := by kernel_rfl
@[simp] theorem uint44 : uint Tryd.prog 44 = none := by kernel_rfl
@[simp] theorem ustr44 : ustr Tryd.prog 44 = false := by kernel_rfl
@[simp] theorem uiface44 : uiface Tryd.prog 44 = some false := by kernel_rfl
@[simp] theorem usz45 : usz Tryd.prog 45 = some 1 := by kernel_rfl
@[simp] theorem ubytes45 : ubytes Tryd.prog 45 = some 8 := by kernel_rfl
@[simp] theorem uagg45 : uagg Tryd.prog 45 = some false := by kernel_rfl
@[simp] theorem uslice45 : uslice Tryd.prog 45 = none := by kernel_rfl
@[simp] theorem uarr45 : uarr Tryd.prog 45 = none := by kernel_rfl
@[simp] theorem uint45 : uint Tryd.prog 45 = none := by kernel_rfl
@[simp] theorem ustr45 : ustr Tryd.prog 45 = false := by kernel_rfl
@[simp] theorem uiface45 : uiface Tryd.prog 45 = some false := by kernel_rfl
@[simp] theorem uzero45 : uzero Tryd.prog 45 = some [.nilf] := by kernel_rfl
@[simp] theorem usz46 : usz Tryd.prog 46 = some 1 := by kernel_rfl
@[simp] theorem ubytes46 : ubytes Tryd.prog 46 = some 8 := by kernel_rfl
@[simp] theorem uagg46 : uagg Tryd.prog 46 = some false := by kernel_rfl
@[simp] theorem uslice46 : uslice Tryd.prog 46 = none := by kernel_rfl
@[simp] theorem uarr46 : uarr Tryd.prog 46 = none := by kernel_rfl
@[simp] theorem uint46 : uint Tryd.prog 46 = none := by kernel_rfl
@[simp] theorem ustr46 : ustr Tryd.prog 46 = false := by kernel_rfl
@[simp] theorem uiface46 : uiface Tryd.prog 46 = some false := by kernel_rfl
@[simp] theorem uzero46 : uzero Tryd.prog 46 = some [.nilf] := by kernel_rfl
@[simp] theorem usz47 : usz Tryd.prog 47 = some 1 := by kernel_rfl
@[simp] theorem ubytes47 : ubytes Tryd.prog 47 = some 8 := by kernel_rfl
@[simp] theorem uagg47 : uagg Tryd.prog 47 = some false := by kernel_rfl
@[simp] theorem uslice47 : uslice Tryd.prog 47 = none := by kernel_rfl
@[simp] theorem uarr47 : uarr Tryd.prog 47 = none := by kernel_rfl
@[simp] theorem uint47 : uint Tryd.prog 47 = none := by kernel_rfl
@[simp] theorem ustr47 : ustr Tryd.prog 47 = false := by kernel_rfl
@[simp] theorem uiface47 : uiface Tryd.prog 47 = some false := by kernel_rfl
@[simp] theorem uzero47 : uzero Tryd.prog 47 = some [.nilf] := by kernel_rfl
@[simp] theorem usz48 : usz Tryd.prog 48 = some 1 := by kernel_rfl
@[simp] theorem ubytes48 : ubytes Tryd.prog 48 = some 0 := by kernel_rfl
@[simp] theorem uagg48 : uagg Tryd.prog 48 = some false := by kernel_rfl
@[simp] theorem uslice48 : uslice Tryd.prog 48 = none := by kernel_rfl
@[simp] theorem uarr48 : uarr Tryd.prog 48 = none := by kernel_rfl
@[simp] theorem uint48 : uint Tryd.prog 48 = none := by kernel_rfl
@[simp] theorem ustr48 : ustr Tryd.prog 48 = false := by kernel_rfl
@[simp] theorem uiface48 : uiface Tryd.prog 48 = some false := by kernel_rfl
@[simp] theorem usz49 : usz Tryd.prog 49 = some 1 := by kernel_rfl
@[simp] theorem ubytes49 : ubytes Tryd.prog 49 = some 8 := by kernel_rfl
@[simp] theorem uagg49 : uagg Tryd.prog 49 = some false := by kernel_rfl
@[simp] theorem uslice49 : uslice Tryd.prog 49 = none := by kernel_rfl
@[simp] theorem uarr49 : uarr Tryd.prog 49 = none := by kernel_rfl
@[simp] theorem uint49 : uint Tryd.prog 49 = none := by kernel_rfl
@[simp] theorem ustr49 : ustr Tryd.prog 49 = false := by kernel_rfl
@[simp] theorem uiface49 : uiface Tryd.prog 49 = some false := by kernel_rfl
@[simp] theorem uzero49 : uzero Tryd.prog 49 = some [.nilf] := by kernel_rfl
@[simp] theorem usz50 : usz Tryd.prog 50 = some 1 := by kernel_rfl
@[simp] theorem ubytes50 : ubytes Tryd.prog 50 = some 8 := by kernel_rfl
@[simp] theorem uagg50 : uagg Tryd.prog 50 = some false := by kernel_rfl
@[simp] theorem uslice50 : uslice Tryd.prog 50 = none := by kernel_rfl
@[simp] theorem uarr50 : uarr Tryd.prog 50 = none := by kernel_rfl
@[simp] theorem uint50 : uint Tryd.prog 50 = none := by kernel_rfl
@[simp] theorem ustr50 : ustr Tryd.prog 50 = false := by kernel_rfl
@[simp] theorem uiface50 : uiface Tryd.prog 50 = some false := by kernel_rfl
@[simp] theorem uzero50 : uzero Tryd.prog 50 = some [.nilf] := by kernel_rfl
@[simp] theorem usz51 : usz Tryd.prog 51 = some 1 := by kernel_rfl
@[simp] theorem ubytes51 : ubytes Tryd.prog 51 = some 8 := by kernel_rfl
@[simp] theorem uagg51 : uagg Tryd.prog 51 = some false := by kernel_rfl
@[simp] theorem uslice51 : uslice Tryd.prog 51 = none := by kernel_rfl
@[simp] theorem uarr51 : uarr Tryd.prog 51 = none := by kernel_rfl
@[simp] theorem uint51 : uint Tryd.prog 51 = none := by kernel_rfl
@[simp] theorem ustr51 : ustr Tryd.prog 51 = false := by kernel_rfl
@[simp] theorem uiface51 : uiface Tryd.prog 51 = some false := by kernel_rfl
@[simp] theorem uzero51 : uzero Tryd.prog 51 = some [.nilf] := by kernel_rfl
@[simp] theorem usz52 : usz Tryd.prog 52 = some 1 := by kernel_rfl
@[simp] theorem ubytes52 : ubytes Tryd.prog 52 = some 8 := by kernel_rfl
@[simp] theorem uagg52 : uagg Tryd.prog 52 = some false := by kernel_rfl
@[simp] theorem uslice52 : uslice Tryd.prog 52 = none := by kernel_rfl
@[simp] theorem uarr52 : uarr Tryd.prog 52 = none := by kernel_rfl
@[simp] theorem uint52 : uint Tryd.prog 52 = none := by kernel_rfl
@[simp] theorem ustr52 : ustr Tryd.prog 52 = false := by kernel_rfl
@[simp] theorem uiface52 : uiface Tryd.prog 52 = some false := by kernel_rfl
@[simp] theorem uzero52 : uzero Tryd.prog 52 = some [.nilf] := by kernel_rfl
@[simp] theorem usz53 : usz Tryd.prog 53 = some 1 := by kernel_rfl
@[simp] theorem ubytes53 : ubytes Tryd.prog 53 = some 8 := by kernel_rfl
@[simp] theorem uagg53 : uagg Tryd.prog 53 = some false := by kernel_rfl
@[simp] theorem uslice53 : uslice Tryd.prog 53 = none := by kernel_rfl
@[simp] theorem uarr53 : uarr Tryd.prog 53 = none := by kernel_rfl
@[simp] theorem uint53 : uint Tryd.prog 53 = none := by kernel_rfl
@[simp] theorem ustr53 : ustr Tryd.prog 53 = false := by kernel_rfl
@[simp] theorem uiface53 : uiface Tryd.prog 53 = some false := by kernel_rfl
@[simp] theorem uzero53 : uzero Tryd.prog 53 = some [.nilf] := by kernel_rfl
@[simp] theorem usz54 : usz Tryd.prog 54 = some 1 := by kernel_rfl
@[simp] theorem ubytes54 : ubytes Tryd.prog 54 = some 8 := by kernel_rfl
@[simp] theorem uagg54 : uagg Tryd.prog 54 = some false := by kernel_rfl
@[simp] theorem uslice54 : uslice Tryd.prog 54 = none := by kernel_rfl
@[simp] theorem uarr54 : uarr Tryd.prog 54 = none := by kernel_rfl
@[simp] theorem uint54 : uint Tryd.prog 54 = none := by kernel_rfl
@[simp] theorem ustr54 : ustr Tryd.prog 54 = false := by kernel_rfl
@[simp] theorem uiface54 : uiface Tryd.prog 54 = some false := by kernel_rfl
@[simp] theorem uzero54 : uzero Tryd.prog 54 = some [.nilf] := by kernel_rfl
@[simp] theorem usz55 : usz Tryd.prog 55 = some 1 := by kernel_rfl
@[simp] theorem ubytes55 : ubytes Tryd.prog 55 = some 8 := by kernel_rfl
@[simp] theorem uagg55 : uagg Tryd.prog 55 = some false := by kernel_rfl
@[simp] theorem uslice55 : uslice Tryd.prog 55 = none := by kernel_rfl
@[simp] theorem uarr55 : uarr Tryd.prog 55 = none := by kernel_rfl
@[simp] theorem uint55 : uint Tryd.prog 55 = some .u64 := by kernel_rfl
@[simp] theorem ustr55 : ustr Tryd.prog 55 = false := by kernel_rfl
@[simp] theorem uiface55 : uiface Tryd.prog 55 = some false := by kernel_rfl
@[simp] theorem uzero55 : uzero Tryd.prog 55 = some [.int .u64 0] := by kernel_rfl
@[simp] theorem usz56 : usz Tryd.prog 56 = some 1 := by kernel_rfl
@[simp] theorem ubytes56 : ubytes Tryd.prog 56 = some 8 := by kernel_rfl
@[simp] theorem uagg56 : uagg Tryd.prog 56 = some false := by kernel_rfl
@[simp] theorem uslice56 : uslice Tryd.prog 56 = none := by kernel_rfl
@[simp] theorem uarr56 : uarr Tryd.prog 56 = none := by kernel_rfl
@[simp] theorem uint56 : uint Tryd.prog 56 = none := by kernel_rfl
@[simp] theorem ustr56 : ustr Tryd.prog 56 = false := by kernel_rfl
@[simp] theorem uiface56 : uiface Tryd.prog 56 = some false := by kernel_rfl
@[simp] theorem uzero56 : uzero Tryd.prog 56 = some [.nilf] := by kernel_rfl
@[simp] theorem usz57 : usz Tryd.prog 57 = some 1 := by kernel_rfl
@[simp] theorem ubytes57 : ubytes Tryd.prog 57 = some 8 := by kernel_rfl
@[simp] theorem uagg57 : uagg Tryd.prog 57 = some false := by kernel_rfl
@[simp] theorem uslice57 : uslice Tryd.prog 57 = none := by kernel_rfl
@[simp] theorem uarr57 : uarr Tryd.prog 57 = none := by kernel_rfl
@[simp] theorem uint57 : uint Tryd.prog 57 = none := by kernel_rfl
@[simp] theorem ustr57 : ustr Tryd.prog 57 = false := by kernel_rfl
@[simp] theorem uiface57 : uiface Tryd.prog 57 = some false := by kernel_rfl
@[simp] theorem uzero57 : uzero Tryd.prog 57 = some [.nilf] := by kernel_rfl
@[simp] theorem usz58 : usz Tryd.prog 58 = some 1 := by kernel_rfl
@[simp] theorem ubytes58 : ubytes Tryd.prog 58 = some 0 := by kernel_rfl
@[simp] theorem uagg58 : uagg Tryd.prog 58 = some false := by kernel_rfl
@[simp] theorem uslice58 : uslice Tryd.prog 58 = none := by kernel_rfl
@[simp] theorem uarr58 : uarr Tryd.prog 58 = none := by kernel_rfl
@[simp] theorem uint58 : uint Tryd.prog 58 = none := by kernel_rfl
@[simp] theorem ustr58 : ustr Tryd.prog 58 = false := by kernel_rfl
@[simp] theorem uiface58 : uiface Tryd.prog 58 = some false := by kernel_rfl
@[simp] theorem usz59 : usz Tryd.prog 59 = some 1 := by kernel_rfl
@[simp] theorem ubytes59 : ubytes Tryd.prog 59 = some 8 := by kernel_rfl
@[simp] theorem uagg59 : uagg Tryd.prog 59 = some false := by kernel_rfl
@[simp] theorem uslice59 : uslice Tryd.prog 59 = none := by kernel_rfl
@[simp] theorem uarr59 : uarr Tryd.prog 59 = none := by kernel_rfl
@[simp] theorem uint59 : uint Tryd.prog 59 = none := by kernel_rfl
@[simp] theorem ustr59 : ustr Tryd.prog 59 = false := by kernel_rfl
@[simp] theorem uiface59 : uiface Tryd.prog 59 = some false := by kernel_rfl
@[simp] theorem uzero59 : uzero Tryd.prog 59 = some [.nilf] := by kernel_rfl
@[simp] theorem usz60 : usz Tryd.prog 60 = some 1 := by kernel_rfl
@[simp] theorem ubytes60 : ubytes Tryd.prog 60 = some 8 := by kernel_rfl
@[simp] theorem uagg60 : uagg Tryd.prog 60 = some false := by kernel_rfl
@[simp] theorem uslice60 : uslice Tryd.prog 60 = none := by kernel_rfl
@[simp] theorem uarr60 : uarr Tryd.prog 60 = none := by kernel_rfl
@[simp] theorem uint60 : uint Tryd.prog 60 = none := by kernel_rfl
@[simp] theorem ustr60 : ustr Tryd.prog 60 = false := by kernel_rfl
@[simp] theorem uiface60 : uiface Tryd.prog 60 = some false := by kernel_rfl
@[simp] theorem uzero60 : uzero Tryd.prog 60 = some [.nilf] := by kernel_rfl
@[simp] theorem usz61 : usz Tryd.prog 61 = some 1 := by kernel_rfl
@[simp] theorem ubytes61 : ubytes Tryd.prog 61 = some 4 := by kernel_rfl
@[simp] theorem uagg61 : uagg Tryd.prog 61 = some false := by kernel_rfl
@[simp] theorem uslice61 : uslice Tryd.prog 61 = none := by kernel_rfl
@[simp] theorem uarr61 : uarr Tryd.prog 61 = none := by kernel_rfl
@[simp] theorem uint61 : uint Tryd.prog 61 = some .u32 := by kernel_rfl
@[simp] theorem ustr61 : ustr Tryd.prog 61 = false := by kernel_rfl
@[simp] theorem uiface61 : uiface Tryd.prog 61 = some false := by kernel_rfl
@[simp] theorem uzero61 : uzero Tryd.prog 61 = some [.int .u32 0] := by kernel_rfl
@[simp] theorem usz62 : usz Tryd.prog 62 = some 1 := by kernel_rfl
@[simp] theorem ubytes62 : ubytes Tryd.prog 62 = some 0 := by kernel_rfl
@[simp] theorem uagg62 : uagg Tryd.prog 62 = some false := by kernel_rfl
@[simp] theorem uslice62 : uslice Tryd.prog 62 = none := by kernel_rfl
@[simp] theorem uarr62 : uarr Tryd.prog 62 = none := by kernel_rfl
@[simp] theorem uint62 : uint Tryd.prog 62 = none := by kernel_rfl
@[simp] theorem ustr62 : ustr Tryd.prog 62 = false := by kernel_rfl
@[simp] theorem uiface62 : uiface Tryd.prog 62 = some false := by kernel_rfl
@[simp] theorem usz63 : usz Tryd.prog 63 = some 1 := by kernel_rfl
@[simp] theorem ubytes63 : ubytes Tryd.prog 63 = some 8 := by kernel_rfl
@[simp] theorem uagg63 : uagg Tryd.prog 63 = some false := by kernel_rfl
@[simp] theorem uslice63 : uslice Tryd.prog 63 = none := by kernel_rfl
@[simp] theorem uarr63 : uarr Tryd.prog 63 = none := by kernel_rfl
@[simp] theorem uint63 : uint Tryd.prog 63 = none := by kernel_rfl
@[simp] theorem ustr63 : ustr Tryd.prog 63 = false := by kernel_rfl
@[simp] theorem uiface63 : uiface Tryd.prog 63 = some false := by kernel_rfl
@[simp] theorem uzero63 : uzero Tryd.prog 63 = some [.nilf] := by kernel_rfl
@[simp] theorem usz64 : usz Tryd.prog 64 = some 256 := by kernel_rfl
@[simp] theorem ubytes64 : ubytes Tryd.prog 64 = some 256 := by kernel_rfl
@[simp] theorem uagg64 : uagg Tryd.prog 64 = some true := by kernel_rfl
@[simp] theorem uslice64 : uslice Tryd.prog 64 = none := by kernel_rfl
@[simp] theorem uarr64 : uarr Tryd.prog 64 = some (256, 5) := by kernel_rfl
@[simp] theorem uint64 : uint Tryd.prog 64 = none := by kernel_rfl
@[simp] theorem ustr64 : ustr Tryd.prog 64 = false := by kernel_rfl
@[simp] theorem uiface64 : uiface Tryd.prog 64 = some false := by kernel_rfl
@[simp] theorem uplace64 (i : Nat) : uplace Tryd.prog 64 i = some (i * 1, 1) := by kernel_rfl
@[simp] theorem uplaces64 : (uplaces Tryd.prog 64).isSome = true := by kernel_rfl
@[simp] theorem uzero64 : uzero Tryd.prog 64 = some (List.replicate 256 (.int .u8 0 : V)) := by kernel_rfl
@[simp] theorem usz65 : usz Tryd.prog 65 = some 2 := by kernel_rfl
@[simp] theorem ubytes65 : ubytes Tryd.prog 65 = some 2 := by kernel_rfl
@[simp] theorem uagg65 : uagg Tryd.prog 65 = some true := by kernel_rfl
@[simp] theorem uslice65 : uslice Tryd.prog 65 = none := by kernel_rfl
@[simp] theorem uarr65 : uarr Tryd.prog 65 = none := by kernel_rfl
@[simp] theorem uint65 : uint Tryd.prog 65 = none := by kernel_rfl
@[simp] theorem ustr65 : ustr Tryd.prog 65 = false := by kernel_rfl
@[simp] theorem uiface65 : uiface Tryd.prog 65 = some false := by kernel_rfl
@[simp] theorem ufield65_0 : ufield Tryd.prog 65 0 = some (5, 0) := by kernel_rfl
@[simp] theorem uplace65_0 : uplace Tryd.prog 65 0 = some (0, 1) := by kernel_rfl
@[simp] theorem ufield65_1 : ufield Tryd.prog 65 1 = some (5, 1) := by kernel_rfl
@[simp] theorem uplace65_1 : uplace Tryd.prog 65 1 = some (1, 1) := by kernel_rfl
@[simp] theorem uplaces65 : (uplaces Tryd.prog 65).isSome = true := by kernel_rfl
@[simp] theorem uzero65 : uzero Tryd.prog 65 = some [.int .u8 0, .int .u8 0] := by kernel_rfl
@[simp] theorem usz66 : usz Tryd.prog 66 = some 2 := by kernel_rfl
@[simp] theorem ubytes66 : ubytes Tryd.prog 66 = some 2 := by kernel_rfl
@[simp] theorem uagg66 : uagg Tryd.prog 66 = some true := by kernel_rfl
@[simp] theorem uslice66 : uslice Tryd.prog 66 = none := by kernel_rfl
@[simp] theorem uarr66 : uarr Tryd.prog 66 = none := by kernel_rfl
@[simp] theorem uint66 : uint Tryd.prog 66 = none := by kernel_rfl
@[simp] theorem ustr66 : ustr Tryd.prog 66 = false := by kernel_rfl
@[simp] theorem uiface66 : uiface Tryd.prog 66 = some false := by kernel_rfl
@[simp] theorem ufield66_0 : ufield Tryd.prog 66 0 = some (5, 0) := by kernel_rfl
@[simp] theorem uplace66_0 : uplace Tryd.prog 66 0 = some (0, 1) := by kernel_rfl
@[simp] theorem ufield66_1 : ufield Tryd.prog 66 1 = some (5, 1) := by kernel_rfl
@[simp] theorem uplace66_1 : uplace Tryd.prog 66 1 = some (1, 1) := by kernel_rfl
@[simp] theorem uplaces66 : (uplaces Tryd.prog 66).isSome = true := by kernel_rfl
@[simp] theorem uzero66 : uzero Tryd.prog 66 = some [.int .u8 0, .int .u8 0] := by kernel_rfl
@[simp] theorem usz67 : usz Tryd.prog 67 = some 32 := by kernel_rfl
@[simp] theorem ubytes67 : ubytes Tryd.prog 67 = some 32 := by kernel_rfl
@[simp] theorem uagg67 : uagg Tryd.prog 67 = some true := by kernel_rfl
@[simp] theorem uslice67 : uslice Tryd.prog 67 = none := by kernel_rfl
@[simp] theorem uarr67 : uarr Tryd.prog 67 = some (16, 66) := by kernel_rfl
@[simp] theorem uint67 : uint Tryd.prog 67 = none := by kernel_rfl
@[simp] theorem ustr67 : ustr Tryd.prog 67 = false := by kernel_rfl
@[simp] theorem uiface67 : uiface Tryd.prog 67 = some false := by kernel_rfl
@[simp] theorem uplace67 (i : Nat) : uplace Tryd.prog 67 i = some (i * 2, 2) := by kernel_rfl
@[simp] theorem uplaces67 : (uplaces Tryd.prog 67).isSome = true := by kernel_rfl
@[simp] theorem uzero67 : uzero Tryd.prog 67 = some (List.replicate 32 (.int .u8 0 : V)) := by kernel_rfl
@[simp] theorem usz68 : usz Tryd.prog 68 = some 1 := by kernel_rfl
@[simp] theorem ubytes68 : ubytes Tryd.prog 68 = some 8 := by kernel_rfl
@[simp] theorem uagg68 : uagg Tryd.prog 68 = some false := by kernel_rfl
@[simp] theorem uslice68 : uslice Tryd.prog 68 = none := by kernel_rfl
@[simp] theorem uarr68 : uarr Tryd.prog 68 = none := by kernel_rfl
@[simp] theorem uint68 : uint Tryd.prog 68 = none := by kernel_rfl
@[simp] theorem ustr68 : ustr Tryd.prog 68 = false := by kernel_rfl
@[simp] theorem uiface68 : uiface Tryd.prog 68 = some false := by kernel_rfl
@[simp] theorem uzero68 : uzero Tryd.prog 68 = some [.nilf] := by kernel_rfl
@[simp] theorem usz69 : usz Tryd.prog 69 = some 4 := by kernel_rfl
@[simp] theorem ubytes69 : ubytes Tryd.prog 69 = some 40 := by kernel_rfl
@[simp] theorem uagg69 : uagg Tryd.prog 69 = some true := by kernel_rfl
@[simp] theorem uslice69 : uslice Tryd.prog 69 = none := by kernel_rfl
@[simp] theorem uarr69 : uarr Tryd.prog 69 = none := by kernel_rfl
@[simp] theorem uint69 : uint Tryd.prog 69 = none := by kernel_rfl
@[simp] theorem ustr69 : ustr Tryd.prog 69 = false := by kernel_rfl
@[simp] theorem uiface69 : uiface Tryd.prog 69 = some false := by kernel_rfl
@[simp] theorem ufield69_0 : ufield Tryd.prog 69 0 = some (17, 0) := by kernel_rfl
@[simp] theorem uplace69_0 : uplace Tryd.prog 69 0 = some (0, 1) := by kernel_rfl
@[simp] theorem ufield69_1 : ufield Tryd.prog 69 1 = some (17, 1) := by kernel_rfl
@[simp] theorem uplace69_1 : uplace Tryd.prog 69 1 = some (1, 1) := by kernel_rfl
@[simp] theorem ufield69_2 : ufield Tryd.prog 69 2 = some (17, 2) := by kernel_rfl
@[simp] theorem uplace69_2 : uplace Tryd.prog 69 2 = some (2, 1) := by kernel_rfl
@[simp] theorem ufield69_3 : ufield Tryd.prog 69 3 = some (9, 3) := by kernel_rfl
@[simp] theorem uplace69_3 : uplace Tryd.prog 69 3 = some (3, 1) := by kernel_rfl
@[simp] theorem uplaces69 : (uplaces Tryd.prog 69).isSome = true := by kernel_rfl
@[simp] theorem uzero69 : uzero Tryd.prog 69 = some [.nilp, .nilp, .nilp, .str []] := by kernel_rfl
@[simp] theorem usz70 : usz Tryd.prog 70 = some 4 := by kernel_rfl
@[simp] theorem ubytes70 : ubytes Tryd.prog 70 = some 40 := by kernel_rfl
@[simp] theorem uagg70 : uagg Tryd.prog 70 = some true := by kernel_rfl
@[simp] theorem uslice70 : uslice Tryd.prog 70 = none := by kernel_rfl
@[simp] theorem uarr70 : uarr Tryd.prog 70 = none := by kernel_rfl
@[simp] theorem uint70 : uint Tryd.prog 70 = none := by kernel_rfl
@[simp] theorem ustr70 : ustr Tryd.prog 70 = false := by kernel_rfl
@[simp] theorem uiface70 : uiface Tryd.prog 70 = some false := by kernel_rfl
@[simp] theorem ufield70_0 : ufield Tryd.prog 70 0 = some (17, 0) := by kernel_rfl
@[simp] theorem uplace70_0 : uplace Tryd.prog 70 0 = some (0, 1) := by kernel_rfl
@[simp] theorem ufield70_1 : ufield Tryd.prog 70 1 = some (17, 1) := by kernel_rfl
@[simp] theorem uplace70_1 : uplace Tryd.prog 70 1 = some (1, 1) := by kernel_rfl
@[simp] theorem ufield70_2 : ufield Tryd.prog 70 2 = some (17, 2) := by kernel_rfl
@[simp] theorem uplace70_2 : uplace Tryd.prog 70 2 = some (2, 1) := by kernel_rfl
@[simp] theorem ufield70_3 : ufield Tryd.prog 70 3 = some (9, 3) := by kernel_rfl
@[simp] theorem uplace70_3 : uplace Tryd.prog 70 3 = some (3, 1) := by kernel_rfl
@[simp] theorem uplaces70 : (uplaces Tryd.prog 70).isSome = true := by kernel_rfl
@[simp] theorem uzero70 : uzero Tryd.prog 70 = some [.nilp, .nilp, .nilp, .str []] := by kernel_rfl
@[simp] theorem usz71 : usz Tryd.prog 71 = some 0 := by kernel_rfl
@[simp] theorem ubytes71 : ubytes Tryd.prog 71 = some 0 := by kernel_rfl
@[simp] theorem uagg71 : uagg Tryd.prog 71 = some true := by kernel_rfl
@[simp] theorem uslice71 : uslice Tryd.prog 71 = none := by kernel_rfl
@[simp] theorem uarr71 : uarr Tryd.prog 71 = some (0, 16) := by kernel_rfl
@[simp] theorem uint71 : uint Tryd.prog 71 = none := by kernel_rfl
@[simp] theorem ustr71 : ustr Tryd.prog 71 = false := by kernel_rfl
@[simp] theorem uiface71 : uiface Tryd.prog 71 = some false := by kernel_rfl
@[simp] theorem uplace71 (i : Nat) : uplace Tryd.prog 71 i = some (i * 1, 1) := by kernel_rfl
@[simp] theorem uplaces71 : (uplaces Tryd.prog 71).isSome = true := by kernel_rfl
@[simp] theorem uzero71 : uzero Tryd.prog 71 = some [] := by kernel_rfl
@[simp] theorem usz72 : usz Tryd.prog 72 = some 0 := by kernel_rfl
@[simp] theorem ubytes72 : ubytes Tryd.prog 72 = some 0 := by kernel_rfl
@[simp] theorem uagg72 : uagg Tryd.prog 72 = some true := by kernel_rfl
@[simp] theorem uslice72 : uslice Tryd.prog 72 = none := by kernel_rfl
@[simp] theorem uarr72 : uarr Tryd.prog 72 = none := by kernel_rfl
@[simp] theorem uint72 : uint Tryd.prog 72 = none := by kernel_rfl
@[simp] theorem ustr72 : ustr Tryd.prog 72 = false := by kernel_rfl
@[simp] theorem uiface72 : uiface Tryd.prog 72 = some false := by kernel_rfl
@[simp] theorem ufield72_0 : ufield Tryd.prog 72 0 = some (71, 0) := by kernel_rfl
@[simp] theorem uplace72_0 : uplace Tryd.prog 72 0 = some (0, 0) := by kernel_rfl
@[simp] theorem uplaces72 : (uplaces Tryd.prog 72).isSome = true := by kernel_rfl
@[simp] theorem uzero72 : uzero Tryd.prog 72 = some [] := by kernel_rfl
@[simp] theorem usz73 : usz Tryd.prog 73 = some 0 := by kernel_rfl
@[simp] theorem ubytes73 : ubytes Tryd.prog 73 = some 0 := by kernel_rfl
@[simp] theorem uagg73 : uagg Tryd.prog 73 = some true := by kernel_rfl
@[simp] theorem uslice73 : uslice Tryd.prog 73 = none := by kernel_rfl
@[simp] theorem uarr73 : uarr Tryd.prog 73 = none := by kernel_rfl
@[simp] theorem uint73 : uint Tryd.prog 73 = none := by kernel_rfl
@[simp] theorem ustr73 : ustr Tryd.prog 73 = false := by kernel_rfl
@[simp] theorem uiface73 : uiface Tryd.prog 73 = some false := by kernel_rfl
@[simp] theorem ufield73_0 : ufield Tryd.prog 73 0 = some (71, 0) := by kernel_rfl
@[simp] theorem uplace73_0 : uplace Tryd.prog 73 0 = some (0, 0) := by kernel_rfl
@[simp] theorem uplaces73 : (uplaces Tryd.prog 73).isSome = true := by kernel_rfl
@[simp] theorem uzero73 : uzero Tryd.prog 73 = some [] := by kernel_rfl
@[simp] theorem usz74 : usz Tryd.prog 74 = some 1 := by kernel_rfl
@[simp] theorem ubytes74 : ubytes Tryd.prog 74 = some 8 := by kernel_rfl
@[simp] theorem uagg74 : uagg Tryd.prog 74 = some false := by kernel_rfl
@[simp] theorem uslice74 : uslice Tryd.prog 74 = none := by kernel_rfl
@[simp] theorem uarr74 : uarr Tryd.prog 74 = none := by kernel_rfl
@[simp] theorem uint74 : uint Tryd.prog 74 = none := by kernel_rfl
@[simp] theorem ustr74 : ustr Tryd.prog 74 = false := by kernel_rfl
@[simp] theorem uiface74 : uiface Tryd.prog 74 = some false := by kernel_rfl
@[simp] theorem uzero74 : uzero Tryd.prog 74 = some [.nilf] := by kernel_rfl
@[simp] theorem usz75 : usz Tryd.prog 75 = some 1 := by kernel_rfl
@[simp] theorem ubytes75 : ubytes Tryd.prog 75 = some 1 := by kernel_rfl
@[simp] theorem uagg75 : uagg Tryd.prog 75 = some false := by kernel_rfl
@[simp] theorem uslice75 : uslice Tryd.prog 75 = none := by kernel_rfl
@[simp] theorem uarr75 : uarr Tryd.prog 75 = none := by kernel_rfl
@[simp] theorem uint75 : uint Tryd.prog 75 = some .u8 := by kernel_rfl
@[simp] theorem ustr75 : ustr Tryd.prog 75 = false := by kernel_rfl
@[simp] theorem uiface75 : uiface Tryd.prog 75 = some false := by kernel_rfl
@[simp] theorem uzero75 : uzero Tryd.prog 75 = some [.int .u8 0] := by kernel_rfl
@[simp] theorem usz76 : usz Tryd.prog 76 = some 1 := by kernel_rfl
@[simp] theorem ubytes76 : ubytes Tryd.prog 76 = some 1 := by kernel_rfl
@[simp] theorem uagg76 : uagg Tryd.prog 76 = some false := by kernel_rfl
@[simp] theorem uslice76 : uslice Tryd.prog 76 = none := by kernel_rfl
@[simp] theorem uarr76 : uarr Tryd.prog 76 = none := by kernel_rfl
@[simp] theorem uint76 : uint Tryd.prog 76 = some .u8 := by kernel_rfl
@[simp] theorem ustr76 : ustr Tryd.prog 76 = false := by kernel_rfl
@[simp] theorem uiface76 : uiface Tryd.prog 76 = some false := by kernel_rfl
@[simp] theorem uzero76 : uzero Tryd.prog 76 = some [.int .u8 0] := by kernel_rfl
@[simp] theorem usz77 : usz Tryd.prog 77 = some 1 := by kernel_rfl
@[simp] theorem ubytes77 : ubytes Tryd.prog 77 = some 8 := by kernel_rfl
@[simp] theorem uagg77 : uagg Tryd.prog 77 = some false := by kernel_rfl
@[simp] theorem uslice77 : uslice Tryd.prog 77 = none := by kernel_rfl
@[simp] theorem uarr77 : uarr Tryd.prog 77 = none := by kernel_rfl
@[simp] theorem uint77 : uint Tryd.prog 77 = none := by kernel_rfl
@[simp] theorem ustr77 : ustr Tryd.prog 77 = false := by kernel_rfl
@[simp] theorem uiface77 : uiface Tryd.prog 77 = some false := by kernel_rfl
@[simp] theorem uzero77 : uzero Tryd.prog 77 = some [.nilf] := by kernel_rfl
@[simp] theorem usz78 : usz Tryd.prog 78 = some 1 := by kernel_rfl
@[simp] theorem ubytes78 : ubytes Tryd.prog 78 = some 8 := by kernel_rfl
@[simp] theorem uagg78 : uagg Tryd.prog 78 = some false := by kernel_rfl
@[simp] theorem uslice78 : uslice Tryd.prog 78 = none := by kernel_rfl
@[simp] theorem uarr78 : uarr Tryd.prog 78 = none := by kernel_rfl
@[simp] theorem uint78 : uint Tryd.prog 78 = none := by kernel_rfl
@[simp] theorem ustr78 : ustr Tryd.prog 78 = false := by kernel_rfl
@[simp] theorem uiface78 : uiface Tryd.prog 78 = some false := by kernel_rfl
@[simp] theorem uptr78 : uptr Tryd.prog 78 = true := by kernel_rfl
@[simp] theorem uzero78 : uzero Tryd.prog 78 = some [.nilp] := by kernel_rfl
@[simp] theorem usz79 : usz Tryd.prog 79 = some 1 := by kernel_rfl
@[simp] theorem ubytes79 : ubytes Tryd.prog 79 = some 4 := by kernel_rfl
@[simp] theorem uagg79 : uagg Tryd.prog 79 = some false := by kernel_rfl
@[simp] theorem uslice79 : uslice Tryd.prog 79 = none := by kernel_rfl
@[simp] theorem uarr79 : uarr Tryd.prog 79 = none := by kernel_rfl
@[simp] theorem uint79 : uint Tryd.prog 79 = some .i32 := by kernel_rfl
@[simp] theorem ustr79 : ustr Tryd.prog 79 = false := by kernel_rfl
@[simp] theorem uiface79 : uiface Tryd.prog 79 = some false := by kernel_rfl
@[simp] theorem uzero79 : uzero Tryd.prog 79 = some [.int .i32 0] := by kernel_rfl
@[simp] theorem usz80 : usz Tryd.prog 80 = some 1 := by kernel_rfl
@[simp] theorem ubytes80 : ubytes Tryd.prog 80 = some 4 := by kernel_rfl
@[simp] theorem uagg80 : uagg Tryd.prog 80 = some false := by kernel_rfl
@[simp] theorem uslice80 : uslice Tryd.prog 80 = none := by kernel_rfl
@[simp] theorem uarr80 : uarr Tryd.prog 80 = none := by kernel_rfl
@[simp] theorem uint80 : uint Tryd.prog 80 = some .i32 := by kernel_rfl
@[simp] theorem ustr80 : ustr Tryd.prog 80 = false := by kernel_rfl
@[simp] theorem uiface80 : uiface Tryd.prog 80 = some false := by kernel_rfl
@[simp] theorem uzero80 : uzero Tryd.prog 80 = some [.int .i32 0] := by kernel_rfl
@[simp] theorem usz81 : usz Tryd.prog 81 = some 11 := by kernel_rfl
@[simp] theorem ubytes81 : ubytes Tryd.prog 81 = some 48 := by kernel_rfl
@[simp] theorem uagg81 : uagg Tryd.prog 81 = some true := by kernel_rfl
@[simp] theorem uslice81 : uslice Tryd.prog 81 = none := by kernel_rfl
@[simp] theorem uarr81 : uarr Tryd.prog 81 = none := by kernel_rfl
@[simp] theorem uint81 : uint Tryd.prog 81 = none := by kernel_rfl
@[simp] theorem ustr81 : ustr Tryd.prog 81 = false := by kernel_rfl
@[simp] theorem uiface81 : uiface Tryd.prog 81 = some false := by kernel_rfl
@[simp] theorem ufield81_0 : ufield Tryd.prog 81 0 = some (12, 0) := by kernel_rfl
@[simp] theorem uplace81_0 : uplace Tryd.prog 81 0 = some (0, 1) := by kernel_rfl
@[simp] theorem ufield81_1 : ufield Tryd.prog 81 1 = some (12, 1) := by kernel_rfl
@[simp] theorem uplace81_1 : uplace Tryd.prog 81 1 = some (1, 1) := by kernel_rfl
@[simp] theorem ufield81_2 : ufield Tryd.prog 81 2 = some (61, 2) := by kernel_rfl
@[simp] theorem uplace81_2 : uplace Tryd.prog 81 2 = some (2, 1) := by kernel_rfl
@[simp] theorem ufield81_3 : ufield Tryd.prog 81 3 = some (75, 3) := by kernel_rfl
@[simp] theorem uplace81_3 : uplace Tryd.prog 81 3 = some (3, 1) := by kernel_rfl
@[simp] theorem ufield81_4 : ufield Tryd.prog 81 4 = some (5, 4) := by kernel_rfl
@[simp] theorem uplace81_4 : uplace Tryd.prog 81 4 = some (4, 1) := by kernel_rfl
@[simp] theorem ufield81_5 : ufield Tryd.prog 81 5 = some (5, 5) := by kernel_rfl
@[simp] theorem uplace81_5 : uplace Tryd.prog 81 5 = some (5, 1) := by kernel_rfl
@[simp] theorem ufield81_6 : ufield Tryd.prog 81 6 = some (76, 6) := by kernel_rfl
@[simp] theorem uplace81_6 : uplace Tryd.prog 81 6 = some (6, 1) := by kernel_rfl
@[simp] theorem ufield81_7 : ufield Tryd.prog 81 7 = some (77, 7) := by kernel_rfl
@[simp] theorem uplace81_7 : uplace Tryd.prog 81 7 = some (7, 1) := by kernel_rfl
@[simp] theorem ufield81_8 : ufield Tryd.prog 81 8 = some (78, 8) := by kernel_rfl
@[simp] theorem uplace81_8 : uplace Tryd.prog 81 8 = some (8, 1) := by kernel_rfl
@[simp] theorem ufield81_9 : ufield Tryd.prog 81 9 = some (79, 9) := by kernel_rfl
@[simp] theorem uplace81_9 : uplace Tryd.prog 81 9 = some (9, 1) := by kernel_rfl
@[simp] theorem ufield81_10 : ufield Tryd.prog 81 10 = some (80, 10) := by kernel_rfl
@[simp] theorem uplace81_10 : uplace Tryd.prog 81 10 = some (10, 1) := by kernel_rfl
@[simp] theorem uplaces81 : (uplaces Tryd.prog 81).isSome = true := by kernel_rfl
@[simp] theorem uzero81 : uzero Tryd.prog 81 = some [.int .u64 0, .int .u64 0, .int .u32 0, .int .u8 0, .int .u8 0, .int .u8 0, .int .u8 0, .nilf, .nilp, .int .i32 0, .int .i32 0] := by kernel_rfl
@[simp] theorem usz82 : usz Tryd.prog 82 = some 11 := by kernel_rfl
@[simp] theorem ubytes82 : ubytes Tryd.prog 82 = some 48 := by kernel_rfl
@[simp] theorem uagg82 : uagg Tryd.prog 82 = some true := by kernel_rfl
@[simp] theorem uslice82 : uslice Tryd.prog 82 = none := by kernel_rfl
@[simp] theorem uarr82 : uarr Tryd.prog 82 = none := by kernel_rfl
@[simp] theorem uint82 : uint Tryd.prog 82 = none := by kernel_rfl
@[simp] theorem ustr82 : ustr Tryd.prog 82 = false := by kernel_rfl
@[simp] theorem uiface82 : uiface Tryd.prog 82 = some false := by kernel_rfl
@[simp] theorem ufield82_0 : ufield Tryd.prog 82 0 = some (12, 0) := by kernel_rfl
@[simp] theorem uplace82_0 : uplace Tryd.prog 82 0 = some (0, 1) := by kernel_rfl
@[simp] theorem ufield82_1 : ufield Tryd.prog 82 1 = some (12, 1) := by kernel_rfl
@[simp] theorem uplace82_1 : uplace Tryd.prog 82 1 = some (1, 1) := by kernel_rfl
@[simp] theorem ufield82_2 : ufield Tryd.prog 82 2 = some (61, 2) := by kernel_rfl
@[simp] theorem uplace82_2 : uplace Tryd.prog 82 2 = some (2, 1) := by kernel_rfl
@[simp] theorem ufield82_3 : ufield Tryd.prog 82 3 = some (75, 3) := by kernel_rfl
@[simp] theorem uplace82_3 : uplace Tryd.prog 82 3 = some (3, 1) := by kernel_rfl
@[simp] theorem ufield82_4 : ufield Tryd.prog 82 4 = some (5, 4) := by kernel_rfl
@[simp] theorem uplace82_4 : uplace Tryd.prog 82 4 = some (4, 1) := by kernel_rfl
@[simp] theorem ufield82_5 : ufield Tryd.prog 82 5 = some (5, 5) := by kernel_rfl
@[simp] theorem uplace82_5 : uplace Tryd.prog 82 5 = some (5, 1) := by kernel_rfl
@[simp] theorem ufield82_6 : ufield Tryd.prog 82 6 = some (76, 6) := by kernel_rfl
@[simp] theorem uplace82_6 : uplace Tryd.prog 82 6 = some (6, 1) := by kernel_rfl
@[simp] theorem ufield82_7 : ufield Tryd.prog 82 7 = some (77, 7) := by kernel_rfl
@[simp] theorem uplace82_7 : uplace Tryd.prog 82 7 = some (7, 1) := by kernel_rfl
@[simp] theorem ufield82_8 : ufield Tryd.prog 82 8 = some (78, 8) := by kernel_rfl
@[simp] theorem uplace82_8 : uplace Tryd.prog 82 8 = some (8, 1) := by kernel_rfl
@[simp] theorem ufield82_9 : ufield Tryd.prog 82 9 = some (79, 9) := by kernel_rfl
@[simp] theorem uplace82_9 : uplace Tryd.prog 82 9 = some (9, 1) := by kernel_rfl
@[simp] theorem ufield82_10 : ufield Tryd.prog 82 10 = some (80, 10) := by kernel_rfl
@[simp] theorem uplace82_10 : uplace Tryd.prog 82 10 = some (10, 1) := by kernel_rfl
@[simp] theorem uplaces82 : (uplaces Tryd.prog 82).isSome = true := by kernel_rfl
@[simp] theorem uzero82 : uzero Tryd.prog 82 = some [.int .u64 0, .int .u64 0, .int .u32 0, .int .u8 0, .int .u8 0, .int .u8 0, .int .u8 0, .nilf, .nilp, .int .i32 0, .int .i32 0] := by kernel_rfl
@[simp] theorem usz83 : usz Tryd.prog 83 = some 1 := by kernel_rfl
@[simp] theorem ubytes83 : ubytes Tryd.prog 83 = some 8 := by kernel_rfl
@[simp] theorem uagg83 : uagg Tryd.prog 83 = some false := by kernel_rfl
@[simp] theorem uslice83 : uslice Tryd.prog 83 = none := by kernel_rfl
@[simp] theorem uarr83 : uarr Tryd.prog 83 = none := by kernel_rfl
@[simp] theorem uint83 : uint Tryd.prog 83 = none := by kernel_rfl
@[simp] theorem ustr83 : ustr Tryd.prog 83 = false := by kernel_rfl
@[simp] theorem uiface83 : uiface Tryd.prog 83 = some false := by kernel_rfl
@[simp] theorem uzero83 : uzero Tryd.prog 83 = some [.nilp] := by kernel_rfl

end Go.Proofs.YtegmenlonpgnpaaDoor
