/-
  VALUE SEMANTICS: what the program's type table says, type by type. Printed by gentab.py.
  Conditions: none.
-/
import Derived.Test.YtcfmanhblonjeaaGreatDoorGc
import Derived.Test.YtcfmanhblonjeaaGreatDoorRows
namespace Go.Proofs.YtcfmanhblonjeaaGreatDoor
open Go.VS

abbrev TY (P : Program) (t n b : Nat) (a : Bool) (s : Option TypeId) (r : Option (Nat × TypeId)) (i : Option IntKind) (c f : Bool) : Prop := usz P t = some n ∧ ubytes P t = some b ∧ uagg P t = some a ∧ uslice P t = s ∧ uarr P t = r ∧ uint P t = i ∧ ustr P t = c ∧ uiface P t = some f
abbrev TF (P : Program) (t k f o n : Nat) : Prop := ufield P t k = some (f, o) ∧ uplace P t k = some (o, n)
@[simp] theorem tb0 : TY Tryz.prog 0 1 0 false none none none false false := by and_intros <;> kernel_rfl
@[simp] theorem tb1 : TY Tryz.prog 1 1 8 false none none none false false ∧ uzero Tryz.prog 1 = some [.nilf] := by and_intros <;> kernel_rfl
@[simp] theorem tb2 : TY Tryz.prog 2 1 8 false none none (some .i64) false false ∧ uzero Tryz.prog 2 = some [.int .i64 0] := by and_intros <;> kernel_rfl
@[simp] theorem tb3 : TY Tryz.prog 3 1 8 false none none (some .i64) false false ∧ uzero Tryz.prog 3 = some [.int .i64 0] := by and_intros <;> kernel_rfl
@[simp] theorem tb4 : TY Tryz.prog 4 1 1 false none none none false false ∧ ubool Tryz.prog 4 = true ∧ uzero Tryz.prog 4 = some [.bool false] := by and_intros <;> kernel_rfl
@[simp] theorem tb5 : TY Tryz.prog 5 1 1 false none none (some .u8) false false ∧ uzero Tryz.prog 5 = some [.int .u8 0] := by and_intros <;> kernel_rfl
@[simp] theorem tb6 : TY Tryz.prog 6 1 1 false none none (some .u8) false false ∧ uzero Tryz.prog 6 = some [.int .u8 0] := by and_intros <;> kernel_rfl
@[simp] theorem tb7 : TY Tryz.prog 7 4 24 true none none none false false ∧ TF Tryz.prog 7 0 2 0 1 ∧ TF Tryz.prog 7 1 3 1 1 ∧ TF Tryz.prog 7 2 4 2 1 ∧ TF Tryz.prog 7 3 6 3 1 ∧ (uplaces Tryz.prog 7).isSome = true ∧ uzero Tryz.prog 7 = some [.int .i64 0, .int .i64 0, .bool false, .int .u8 0] := by and_intros <;> kernel_rfl
@[simp] theorem tb8 : TY Tryz.prog 8 4 24 true none none none false false ∧ TF Tryz.prog 8 0 2 0 1 ∧ TF Tryz.prog 8 1 3 1 1 ∧ TF Tryz.prog 8 2 4 2 1 ∧ TF Tryz.prog 8 3 6 3 1 ∧ (uplaces Tryz.prog 8).isSome = true ∧ uzero Tryz.prog 8 = some [.int .i64 0, .int .i64 0, .bool false, .int .u8 0] := by and_intros <;> kernel_rfl
@[simp] theorem tb9 : TY Tryz.prog 9 1 16 false none none none true false ∧ uzero Tryz.prog 9 = some [.str []] := by and_intros <;> kernel_rfl
@[simp] theorem tb10 : TY Tryz.prog 10 1 16 false none none none true false ∧ uzero Tryz.prog 10 = some [.str []] := by and_intros <;> kernel_rfl
@[simp] theorem tb11 : TY Tryz.prog 11 1 16 false none none none true false ∧ uzero Tryz.prog 11 = some [.str []] := by and_intros <;> kernel_rfl
@[simp] theorem tb12 : TY Tryz.prog 12 1 8 false none none (some .u64) false false ∧ uzero Tryz.prog 12 = some [.int .u64 0] := by and_intros <;> kernel_rfl
@[simp] theorem tb13 : TY Tryz.prog 13 2 24 true none none none false false ∧ TF Tryz.prog 13 0 9 0 1 ∧ TF Tryz.prog 13 1 12 1 1 ∧ (uplaces Tryz.prog 13).isSome = true ∧ uzero Tryz.prog 13 = some [.str [], .int .u64 0] := by and_intros <;> kernel_rfl
@[simp] theorem tb14 : TY Tryz.prog 14 2 24 true none none none false false ∧ TF Tryz.prog 14 0 9 0 1 ∧ TF Tryz.prog 14 1 12 1 1 ∧ (uplaces Tryz.prog 14).isSome = true ∧ uzero Tryz.prog 14 = some [.str [], .int .u64 0] := by and_intros <;> kernel_rfl
@[simp] theorem tb15 : TY Tryz.prog 15 1 8 false none none none false false ∧ uptr Tryz.prog 15 = true ∧ uzero Tryz.prog 15 = some [.nilp] := by and_intros <;> kernel_rfl
@[simp] theorem tb16 : TY Tryz.prog 16 1 8 false none none none false false ∧ uptr Tryz.prog 16 = true ∧ uzero Tryz.prog 16 = some [.nilp] := by and_intros <;> kernel_rfl
@[simp] theorem tb17 : TY Tryz.prog 17 1 8 false none none none false false ∧ uptr Tryz.prog 17 = true ∧ uzero Tryz.prog 17 = some [.nilp] := by and_intros <;> kernel_rfl
@[simp] theorem tb18 : TY Tryz.prog 18 1 8 true none none none false false ∧ TF Tryz.prog 18 0 17 0 1 ∧ (uplaces Tryz.prog 18).isSome = true ∧ uzero Tryz.prog 18 = some [.nilp] := by and_intros <;> kernel_rfl
@[simp] theorem tb19 : TY Tryz.prog 19 1 8 true none none none false false ∧ TF Tryz.prog 19 0 17 0 1 ∧ (uplaces Tryz.prog 19).isSome = true ∧ uzero Tryz.prog 19 = some [.nilp] := by and_intros <;> kernel_rfl
@[simp] theorem tb20 : TY Tryz.prog 20 1 16 false none none none false true ∧ uzero Tryz.prog 20 = some [.niface] := by and_intros <;> kernel_rfl
@[simp] theorem tb21 : TY Tryz.prog 21 1 4 false none none (some .i32) false false ∧ uzero Tryz.prog 21 = some [.int .i32 0] := by and_intros <;> kernel_rfl
@[simp] theorem tb22 : TY Tryz.prog 22 1 24 false (some 3) none none false false ∧ uzero Tryz.prog 22 = some [.nils] := by and_intros <;> kernel_rfl
@[simp] theorem tb23 : TY Tryz.prog 23 1 8 false none none none false false ∧ uptr Tryz.prog 23 = true ∧ uzero Tryz.prog 23 = some [.nilp] := by and_intros <;> kernel_rfl
@[simp] theorem tb24 : TY Tryz.prog 24 1 8 false none none none false false ∧ uzero Tryz.prog 24 = some [.nilf] := by and_intros <;> kernel_rfl
@[simp] theorem tb25 : TY Tryz.prog 25 1 24 false (some 75) none none false false ∧ uzero Tryz.prog 25 = some [.nils] := by and_intros <;> kernel_rfl
@[simp] theorem tb26 : TY Tryz.prog 26 1 24 true none none none false false ∧ TF Tryz.prog 26 0 25 0 1 ∧ (uplaces Tryz.prog 26).isSome = true ∧ uzero Tryz.prog 26 = some [.nils] := by and_intros <;> kernel_rfl
@[simp] theorem tb27 : TY Tryz.prog 27 1 24 true none none none false false ∧ TF Tryz.prog 27 0 25 0 1 ∧ (uplaces Tryz.prog 27).isSome = true ∧ uzero Tryz.prog 27 = some [.nils] := by and_intros <;> kernel_rfl
@[simp] theorem tb28 : TY Tryz.prog 28 3 40 true none none none false false ∧ TF Tryz.prog 28 0 3 0 1 ∧ TF Tryz.prog 28 1 9 1 1 ∧ TF Tryz.prog 28 2 9 2 1 ∧ (uplaces Tryz.prog 28).isSome = true ∧ uzero Tryz.prog 28 = some [.int .i64 0, .str [], .str []] := by and_intros <;> kernel_rfl
@[simp] theorem tb29 : TY Tryz.prog 29 3 40 true none none none false false ∧ TF Tryz.prog 29 0 3 0 1 ∧ TF Tryz.prog 29 1 9 1 1 ∧ TF Tryz.prog 29 2 9 2 1 ∧ (uplaces Tryz.prog 29).isSome = true ∧ uzero Tryz.prog 29 = some [.int .i64 0, .str [], .str []] := by and_intros <;> kernel_rfl
@[simp] theorem tb30 : TY Tryz.prog 30 1 24 false (some 40) none none false false ∧ uzero Tryz.prog 30 = some [.nils] := by and_intros <;> kernel_rfl
@[simp] theorem tb31 : TY Tryz.prog 31 1 24 true none none none false false ∧ TF Tryz.prog 31 0 30 0 1 ∧ (uplaces Tryz.prog 31).isSome = true ∧ uzero Tryz.prog 31 = some [.nils] := by and_intros <;> kernel_rfl
@[simp] theorem tb32 : TY Tryz.prog 32 1 24 true none none none false false ∧ TF Tryz.prog 32 0 30 0 1 ∧ (uplaces Tryz.prog 32).isSome = true ∧ uzero Tryz.prog 32 = some [.nils] := by and_intros <;> kernel_rfl
@[simp] theorem tb33 : TY Tryz.prog 33 10 128 true none none none false false ∧ TF Tryz.prog 33 0 27 0 1 ∧ TF Tryz.prog 33 1 29 1 3 ∧ TF Tryz.prog 33 2 4 4 1 ∧ TF Tryz.prog 33 3 3 5 1 ∧ TF Tryz.prog 33 4 3 6 1 ∧ TF Tryz.prog 33 5 3 7 1 ∧ TF Tryz.prog 33 6 3 8 1 ∧ TF Tryz.prog 33 7 32 9 1 ∧ (uplaces Tryz.prog 33).isSome = true ∧ uzero Tryz.prog 33 = some [.nils, .int .i64 0, .str [], .str [], .bool false, .int .i64 0, .int .i64 0, .int .i64 0, .int .i64 0, .nils] := by and_intros <;> kernel_rfl
@[simp] theorem tb34 : TY Tryz.prog 34 10 128 true none none none false false ∧ TF Tryz.prog 34 0 27 0 1 ∧ TF Tryz.prog 34 1 29 1 3 ∧ TF Tryz.prog 34 2 4 4 1 ∧ TF Tryz.prog 34 3 3 5 1 ∧ TF Tryz.prog 34 4 3 6 1 ∧ TF Tryz.prog 34 5 3 7 1 ∧ TF Tryz.prog 34 6 3 8 1 ∧ TF Tryz.prog 34 7 32 9 1 ∧ (uplaces Tryz.prog 34).isSome = true ∧ uzero Tryz.prog 34 = some [.nils, .int .i64 0, .str [], .str [], .bool false, .int .i64 0, .int .i64 0, .int .i64 0, .int .i64 0, .nils] := by and_intros <;> kernel_rfl
@[simp] theorem tb35 : TY Tryz.prog 35 1 8 false none none none false false ∧ uzero Tryz.prog 35 = some [.nilf] := by and_intros <;> kernel_rfl
@[simp] theorem tb36 : TY Tryz.prog 36 1 24 false (some 9) none none false false ∧ uzero Tryz.prog 36 = some [.nils] := by and_intros <;> kernel_rfl
@[simp] theorem tb37 : TY Tryz.prog 37 1 24 false (some 104) none none false false ∧ uzero Tryz.prog 37 = some [.nils] := by and_intros <;> kernel_rfl
@[simp] theorem tb38 : TY Tryz.prog 38 1 24 false (some 56) none none false false ∧ uzero Tryz.prog 38 = some [.nils] := by and_intros <;> kernel_rfl
@[simp] theorem tb39 : TY Tryz.prog 39 2 48 true none none none false false ∧ TF Tryz.prog 39 0 38 0 1 ∧ TF Tryz.prog 39 1 38 1 1 ∧ (uplaces Tryz.prog 39).isSome = true ∧ uzero Tryz.prog 39 = some [.nils, .nils] := by and_intros <;> kernel_rfl
@[simp] theorem tb40 : TY Tryz.prog 40 2 48 true none none none false false ∧ TF Tryz.prog 40 0 38 0 1 ∧ TF Tryz.prog 40 1 38 1 1 ∧ (uplaces Tryz.prog 40).isSome = true ∧ uzero Tryz.prog 40 = some [.nils, .nils] := by and_intros <;> kernel_rfl
@[simp] theorem tb41 : TY Tryz.prog 41 1 24 false (some 125) none none false false ∧ uzero Tryz.prog 41 = some [.nils] := by and_intros <;> kernel_rfl
@[simp] theorem tb42 : TY Tryz.prog 42 1 24 false (some 84) none none false false ∧ uzero Tryz.prog 42 = some [.nils] := by and_intros <;> kernel_rfl
@[simp] theorem tb43 : TY Tryz.prog 43 19 304 true none none none false false ∧ TF Tryz.prog 43 0 4 0 1 ∧ TF Tryz.prog 43 1 4 1 1 ∧ TF Tryz.prog 43 2 3 2 1 ∧ TF Tryz.prog 43 3 3 3 1 ∧ TF Tryz.prog 43 4 36 4 1 ∧ TF Tryz.prog 43 5 36 5 1 ∧ TF Tryz.prog 43 6 37 6 1 ∧ TF Tryz.prog 43 7 3 7 1 ∧ TF Tryz.prog 43 8 3 8 1 ∧ TF Tryz.prog 43 9 3 9 1 ∧ TF Tryz.prog 43 10 38 10 1 ∧ TF Tryz.prog 43 11 4 11 1 ∧ TF Tryz.prog 43 12 40 12 2 ∧ TF Tryz.prog 43 13 9 14 1 ∧ TF Tryz.prog 43 14 9 15 1 ∧ TF Tryz.prog 43 15 41 16 1 ∧ TF Tryz.prog 43 16 41 17 1 ∧ TF Tryz.prog 43 17 42 18 1 ∧ (uplaces Tryz.prog 43).isSome = true ∧ uzero Tryz.prog 43 = some [.bool false, .bool false, .int .i64 0, .int .i64 0, .nils, .nils, .nils, .int .i64 0, .int .i64 0, .int .i64 0, .nils, .bool false, .nils, .nils, .str [], .str [], .nils, .nils, .nils] := by and_intros <;> kernel_rfl
@[simp] theorem tb44 : TY Tryz.prog 44 19 304 true none none none false false ∧ TF Tryz.prog 44 0 4 0 1 ∧ TF Tryz.prog 44 1 4 1 1 ∧ TF Tryz.prog 44 2 3 2 1 ∧ TF Tryz.prog 44 3 3 3 1 ∧ TF Tryz.prog 44 4 36 4 1 ∧ TF Tryz.prog 44 5 36 5 1 ∧ TF Tryz.prog 44 6 37 6 1 ∧ TF Tryz.prog 44 7 3 7 1 ∧ TF Tryz.prog 44 8 3 8 1 ∧ TF Tryz.prog 44 9 3 9 1 ∧ TF Tryz.prog 44 10 38 10 1 ∧ TF Tryz.prog 44 11 4 11 1 ∧ TF Tryz.prog 44 12 40 12 2 ∧ TF Tryz.prog 44 13 9 14 1 ∧ TF Tryz.prog 44 14 9 15 1 ∧ TF Tryz.prog 44 15 41 16 1 ∧ TF Tryz.prog 44 16 41 17 1 ∧ TF Tryz.prog 44 17 42 18 1 ∧ (uplaces Tryz.prog 44).isSome = true ∧ uzero Tryz.prog 44 = some [.bool false, .bool false, .int .i64 0, .int .i64 0, .nils, .nils, .nils, .int .i64 0, .int .i64 0, .int .i64 0, .nils, .bool false, .nils, .nils, .str [], .str [], .nils, .nils, .nils] := by and_intros <;> kernel_rfl
@[simp] theorem tb45 : TY Tryz.prog 45 30 464 true none none none false false ∧ TF Tryz.prog 45 0 9 0 1 ∧ TF Tryz.prog 45 1 9 1 1 ∧ TF Tryz.prog 45 2 3 2 1 ∧ TF Tryz.prog 45 3 27 3 1 ∧ TF Tryz.prog 45 4 27 4 1 ∧ TF Tryz.prog 45 5 3 5 1 ∧ TF Tryz.prog 45 6 3 6 1 ∧ TF Tryz.prog 45 7 29 7 3 ∧ TF Tryz.prog 45 8 44 10 19 ∧ TF Tryz.prog 45 9 9 29 1 ∧ (uplaces Tryz.prog 45).isSome = true ∧ uzero Tryz.prog 45 = some [.str [], .str [], .int .i64 0, .nils, .nils, .int .i64 0, .int .i64 0, .int .i64 0, .str [], .str [], .bool false, .bool false, .int .i64 0, .int .i64 0, .nils, .nils, .nils, .int .i64 0, .int .i64 0, .int .i64 0, .nils, .bool false, .nils, .nils, .str [], .str [], .nils, .nils, .nils, .str []] := by and_intros <;> kernel_rfl
@[simp] theorem tb46 : TY Tryz.prog 46 30 464 true none none none false false ∧ TF Tryz.prog 46 0 9 0 1 ∧ TF Tryz.prog 46 1 9 1 1 ∧ TF Tryz.prog 46 2 3 2 1 ∧ TF Tryz.prog 46 3 27 3 1 ∧ TF Tryz.prog 46 4 27 4 1 ∧ TF Tryz.prog 46 5 3 5 1 ∧ TF Tryz.prog 46 6 3 6 1 ∧ TF Tryz.prog 46 7 29 7 3 ∧ TF Tryz.prog 46 8 44 10 19 ∧ TF Tryz.prog 46 9 9 29 1 ∧ (uplaces Tryz.prog 46).isSome = true ∧ uzero Tryz.prog 46 = some [.str [], .str [], .int .i64 0, .nils, .nils, .int .i64 0, .int .i64 0, .int .i64 0, .str [], .str [], .bool false, .bool false, .int .i64 0, .int .i64 0, .nils, .nils, .nils, .int .i64 0, .int .i64 0, .int .i64 0, .nils, .bool false, .nils, .nils, .str [], .str [], .nils, .nils, .nils, .str []] := by and_intros <;> kernel_rfl
@[simp] theorem tb47 : TY Tryz.prog 47 1 8 false none none none false false ∧ uzero Tryz.prog 47 = some [.nilf] := by and_intros <;> kernel_rfl
@[simp] theorem tb48 : TY Tryz.prog 48 1 8 false none none none false false ∧ uzero Tryz.prog 48 = some [.nilf] := by and_intros <;> kernel_rfl
@[simp] theorem tb49 : TY Tryz.prog 49 1 8 false none none none false false ∧ uzero Tryz.prog 49 = some [.nilf] := by and_intros <;> kernel_rfl
@[simp] theorem tb50 : TY Tryz.prog 50 1 24 false (some 65) none none false false ∧ uzero Tryz.prog 50 = some [.nils] := by and_intros <;> kernel_rfl
@[simp] theorem tb51 : TY Tryz.prog 51 11 128 true none none none false false ∧ TF Tryz.prog 51 0 3 0 1 ∧ TF Tryz.prog 51 1 9 1 1 ∧ TF Tryz.prog 51 2 3 2 1 ∧ TF Tryz.prog 51 3 36 3 1 ∧ TF Tryz.prog 51 4 4 4 1 ∧ TF Tryz.prog 51 5 4 5 1 ∧ TF Tryz.prog 51 6 4 6 1 ∧ TF Tryz.prog 51 7 38 7 1 ∧ TF Tryz.prog 51 8 3 8 1 ∧ TF Tryz.prog 51 9 4 9 1 ∧ TF Tryz.prog 51 10 50 10 1 ∧ (uplaces Tryz.prog 51).isSome = true ∧ uzero Tryz.prog 51 = some [.int .i64 0, .str [], .int .i64 0, .nils, .bool false, .bool false, .bool false, .nils, .int .i64 0, .bool false, .nils] := by and_intros <;> kernel_rfl
@[simp] theorem tb52 : TY Tryz.prog 52 11 128 true none none none false false ∧ TF Tryz.prog 52 0 3 0 1 ∧ TF Tryz.prog 52 1 9 1 1 ∧ TF Tryz.prog 52 2 3 2 1 ∧ TF Tryz.prog 52 3 36 3 1 ∧ TF Tryz.prog 52 4 4 4 1 ∧ TF Tryz.prog 52 5 4 5 1 ∧ TF Tryz.prog 52 6 4 6 1 ∧ TF Tryz.prog 52 7 38 7 1 ∧ TF Tryz.prog 52 8 3 8 1 ∧ TF Tryz.prog 52 9 4 9 1 ∧ TF Tryz.prog 52 10 50 10 1 ∧ (uplaces Tryz.prog 52).isSome = true ∧ uzero Tryz.prog 52 = some [.int .i64 0, .str [], .int .i64 0, .nils, .bool false, .bool false, .bool false, .nils, .int .i64 0, .bool false, .nils] := by and_intros <;> kernel_rfl
@[simp] theorem tb53 : TY Tryz.prog 53 1 8 false none none none false false ∧ uzero Tryz.prog 53 = some [.nilf] := by and_intros <;> kernel_rfl
@[simp] theorem tb54 : TY Tryz.prog 54 1 8 false none none none false false ∧ uzero Tryz.prog 54 = some [.nilf] := by and_intros <;> kernel_rfl
@[simp] theorem tb55 : TY Tryz.prog 55 3 48 true none none none false false ∧ TF Tryz.prog 55 0 3 0 1 ∧ TF Tryz.prog 55 1 9 1 1 ∧ TF Tryz.prog 55 2 27 2 1 ∧ (uplaces Tryz.prog 55).isSome = true ∧ uzero Tryz.prog 55 = some [.int .i64 0, .str [], .nils] := by and_intros <;> kernel_rfl
@[simp] theorem tb56 : TY Tryz.prog 56 3 48 true none none none false false ∧ TF Tryz.prog 56 0 3 0 1 ∧ TF Tryz.prog 56 1 9 1 1 ∧ TF Tryz.prog 56 2 27 2 1 ∧ (uplaces Tryz.prog 56).isSome = true ∧ uzero Tryz.prog 56 = some [.int .i64 0, .str [], .nils] := by and_intros <;> kernel_rfl
@[simp] theorem tb57 : TY Tryz.prog 57 1 8 false none none none false false ∧ uzero Tryz.prog 57 = some [.nilf] := by and_intros <;> kernel_rfl
@[simp] theorem tb58 : TY Tryz.prog 58 1 8 false none none none false false ∧ uzero Tryz.prog 58 = some [.nilf] := by and_intros <;> kernel_rfl
@[simp] theorem tb59 : TY Tryz.prog 59 1 8 false none none none false false ∧ uzero Tryz.prog 59 = some [.nilf] := by and_intros <;> kernel_rfl
@[simp] theorem tb60 : TY Tryz.prog 60 1 8 false none none none false false ∧ uzero Tryz.prog 60 = some [.nilf] := by and_intros <;> kernel_rfl
@[simp] theorem tb61 : TY Tryz.prog 61 1 8 false none none none false false ∧ uzero Tryz.prog 61 = some [.nilf] := by and_intros <;> kernel_rfl
@[simp] theorem tb62 : TY Tryz.prog 62 2 32 true none none none false false ∧ TF Tryz.prog 62 0 22 0 1 ∧ TF Tryz.prog 62 1 3 1 1 ∧ (uplaces Tryz.prog 62).isSome = true ∧ uzero Tryz.prog 62 = some [.nils, .int .i64 0] := by and_intros <;> kernel_rfl
@[simp] theorem tb63 : TY Tryz.prog 63 2 32 true none none none false false ∧ TF Tryz.prog 63 0 22 0 1 ∧ TF Tryz.prog 63 1 3 1 1 ∧ (uplaces Tryz.prog 63).isSome = true ∧ uzero Tryz.prog 63 = some [.nils, .int .i64 0] := by and_intros <;> kernel_rfl
@[simp] theorem tb64 : TY Tryz.prog 64 4 64 true none none none false false ∧ TF Tryz.prog 64 0 27 0 1 ∧ TF Tryz.prog 64 1 29 1 3 ∧ (uplaces Tryz.prog 64).isSome = true ∧ uzero Tryz.prog 64 = some [.nils, .int .i64 0, .str [], .str []] := by and_intros <;> kernel_rfl
@[simp] theorem tb65 : TY Tryz.prog 65 4 64 true none none none false false ∧ TF Tryz.prog 65 0 27 0 1 ∧ TF Tryz.prog 65 1 29 1 3 ∧ (uplaces Tryz.prog 65).isSome = true ∧ uzero Tryz.prog 65 = some [.nils, .int .i64 0, .str [], .str []] := by and_intros <;> kernel_rfl
@[simp] theorem tb66 : TY Tryz.prog 66 1 8 false none none none false false ∧ uzero Tryz.prog 66 = some [.nilf] := by and_intros <;> kernel_rfl
@[simp] theorem tb67 : TY Tryz.prog 67 1 8 false none none none false false ∧ uzero Tryz.prog 67 = some [.nilf] := by and_intros <;> kernel_rfl
@[simp] theorem tb68 : TY Tryz.prog 68 1 8 false none none none false false ∧ uzero Tryz.prog 68 = some [.nilf] := by and_intros <;> kernel_rfl
@[simp] theorem tb69 : TY Tryz.prog 69 1 8 false none none none false false ∧ uzero Tryz.prog 69 = some [.nilf] := by and_intros <;> kernel_rfl
@[simp] theorem tb70 : TY Tryz.prog 70 1 8 false none none none false false ∧ uzero Tryz.prog 70 = some [.nilf] := by and_intros <;> kernel_rfl
@[simp] theorem tb71 : TY Tryz.prog 71 1 0 false none none none false false := by and_intros <;> kernel_rfl
@[simp] theorem tb72 : TY Tryz.prog 72 1 8 false none none none false false ∧ uzero Tryz.prog 72 = some [.nilf] := by and_intros <;> kernel_rfl
@[simp] theorem tb73 : TY Tryz.prog 73 1 8 false none none none false false ∧ uptr Tryz.prog 73 = true ∧ uzero Tryz.prog 73 = some [.nilp] := by and_intros <;> kernel_rfl
@[simp] theorem tb74 : TY Tryz.prog 74 1 8 false none none none false false ∧ uzero Tryz.prog 74 = some [.nilf] := by and_intros <;> kernel_rfl
@[simp] theorem tb75 : TY Tryz.prog 75 1 24 false (some 77) none none false false ∧ uzero Tryz.prog 75 = some [.nils] := by and_intros <;> kernel_rfl
@[simp] theorem tb76 : TY Tryz.prog 76 3 40 true none none none false false ∧ TF Tryz.prog 76 0 9 0 1 ∧ TF Tryz.prog 76 1 3 1 1 ∧ TF Tryz.prog 76 2 9 2 1 ∧ (uplaces Tryz.prog 76).isSome = true ∧ uzero Tryz.prog 76 = some [.str [], .int .i64 0, .str []] := by and_intros <;> kernel_rfl
@[simp] theorem tb77 : TY Tryz.prog 77 3 40 true none none none false false ∧ TF Tryz.prog 77 0 9 0 1 ∧ TF Tryz.prog 77 1 3 1 1 ∧ TF Tryz.prog 77 2 9 2 1 ∧ (uplaces Tryz.prog 77).isSome = true ∧ uzero Tryz.prog 77 = some [.str [], .int .i64 0, .str []] := by and_intros <;> kernel_rfl
@[simp] theorem tb78 : TY Tryz.prog 78 1 8 false none none none false false ∧ uzero Tryz.prog 78 = some [.nilf] := by and_intros <;> kernel_rfl
@[simp] theorem tb79 : TY Tryz.prog 79 1 8 false none none none false false ∧ uzero Tryz.prog 79 = some [.nilf] := by and_intros <;> kernel_rfl
@[simp] theorem tb80 : TY Tryz.prog 80 1 8 false none none none false false ∧ uzero Tryz.prog 80 = some [.nilf] := by and_intros <;> kernel_rfl
@[simp] theorem tb81 : TY Tryz.prog 81 1 8 false none none none false false ∧ uzero Tryz.prog 81 = some [.nilf] := by and_intros <;> kernel_rfl
@[simp] theorem tb82 : TY Tryz.prog 82 1 8 false none none none false false ∧ uzero Tryz.prog 82 = some [.nilf] := by and_intros <;> kernel_rfl
@[simp] theorem tb83 : TY Tryz.prog 83 3 40 true none none none false false ∧ TF Tryz.prog 83 0 9 0 1 ∧ TF Tryz.prog 83 1 4 1 1 ∧ TF Tryz.prog 83 2 9 2 1 ∧ (uplaces Tryz.prog 83).isSome = true ∧ uzero Tryz.prog 83 = some [.str [], .bool false, .str []] := by and_intros <;> kernel_rfl
@[simp] theorem tb84 : TY Tryz.prog 84 3 40 true none none none false false ∧ TF Tryz.prog 84 0 9 0 1 ∧ TF Tryz.prog 84 1 4 1 1 ∧ TF Tryz.prog 84 2 9 2 1 ∧ (uplaces Tryz.prog 84).isSome = true ∧ uzero Tryz.prog 84 = some [.str [], .bool false, .str []] := by and_intros <;> kernel_rfl
@[simp] theorem tb85 : TY Tryz.prog 85 1 8 false none none none false false ∧ uzero Tryz.prog 85 = some [.nilf] := by and_intros <;> kernel_rfl
@[simp] theorem tb86 : TY Tryz.prog 86 1 8 false none none none false false ∧ uzero Tryz.prog 86 = some [.nilf] := by and_intros <;> kernel_rfl
@[simp] theorem tb87 : TY Tryz.prog 87 1 8 false none none none false false ∧ uzero Tryz.prog 87 = some [.nilf] := by and_intros <;> kernel_rfl
@[simp] theorem tb88 : TY Tryz.prog 88 1 8 false none none none false false ∧ uzero Tryz.prog 88 = some [.nilf] := by and_intros <;> kernel_rfl
@[simp] theorem tb89 : TY Tryz.prog 89 1 8 false none none none false false ∧ uzero Tryz.prog 89 = some [.nilf] := by and_intros <;> kernel_rfl
@[simp] theorem tb90 : TY Tryz.prog 90 1 8 false none none none false false ∧ uzero Tryz.prog 90 = some [.nilf] := by and_intros <;> kernel_rfl
@[simp] theorem tb91 : TY Tryz.prog 91 1 8 false none none none false false ∧ uzero Tryz.prog 91 = some [.nilf] := by and_intros <;> kernel_rfl
@[simp] theorem tb92 : TY Tryz.prog 92 1 0 false none none none false false := by and_intros <;> kernel_rfl
@[simp] theorem tb93 : TY Tryz.prog 93 1 8 false none none none false false ∧ uzero Tryz.prog 93 = some [.nilf] := by and_intros <;> kernel_rfl
@[simp] theorem tb94 : TY Tryz.prog 94 1 8 false none none none false false ∧ uzero Tryz.prog 94 = some [.nilf] := by and_intros <;> kernel_rfl
@[simp] theorem tb95 : TY Tryz.prog 95 1 8 false none none none false false ∧ uzero Tryz.prog 95 = some [.nilf] := by and_intros <;> kernel_rfl
@[simp] theorem tb96 : TY Tryz.prog 96 1 8 false none none none false false ∧ uzero Tryz.prog 96 = some [.nilf] := by and_intros <;> kernel_rfl
@[simp] theorem tb97 : TY Tryz.prog 97 1 8 false none none none false false ∧ uzero Tryz.prog 97 = some [.nilf] := by and_intros <;> kernel_rfl
@[simp] theorem tb98 : TY Tryz.prog 98 1 24 false (some 36) none none false false ∧ uzero Tryz.prog 98 = some [.nils] := by and_intros <;> kernel_rfl
@[simp] theorem tb99 : TY Tryz.prog 99 3 56 true none none none false false ∧ TF Tryz.prog 99 0 9 0 1 ∧ TF Tryz.prog 99 1 9 1 1 ∧ TF Tryz.prog 99 2 98 2 1 ∧ (uplaces Tryz.prog 99).isSome = true ∧ uzero Tryz.prog 99 = some [.str [], .str [], .nils] := by and_intros <;> kernel_rfl
@[simp] theorem tb100 : TY Tryz.prog 100 3 56 true none none none false false ∧ TF Tryz.prog 100 0 9 0 1 ∧ TF Tryz.prog 100 1 9 1 1 ∧ TF Tryz.prog 100 2 98 2 1 ∧ (uplaces Tryz.prog 100).isSome = true ∧ uzero Tryz.prog 100 = some [.str [], .str [], .nils] := by and_intros <;> kernel_rfl
@[simp] theorem tb101 : TY Tryz.prog 101 1 8 false none none none false false ∧ uzero Tryz.prog 101 = some [.nilf] := by and_intros <;> kernel_rfl
@[simp] theorem tb102 : TY Tryz.prog 102 1 8 false none none none false false ∧ uzero Tryz.prog 102 = some [.nilf] := by and_intros <;> kernel_rfl
@[simp] theorem tb103 : TY Tryz.prog 103 2 32 true none none none false false ∧ TF Tryz.prog 103 0 9 0 1 ∧ TF Tryz.prog 103 1 9 1 1 ∧ (uplaces Tryz.prog 103).isSome = true ∧ uzero Tryz.prog 103 = some [.str [], .str []] := by and_intros <;> kernel_rfl
@[simp] theorem tb104 : TY Tryz.prog 104 2 32 true none none none false false ∧ TF Tryz.prog 104 0 9 0 1 ∧ TF Tryz.prog 104 1 9 1 1 ∧ (uplaces Tryz.prog 104).isSome = true ∧ uzero Tryz.prog 104 = some [.str [], .str []] := by and_intros <;> kernel_rfl
@[simp] theorem tb105 : TY Tryz.prog 105 1 8 false none none none false false ∧ uzero Tryz.prog 105 = some [.nilf] := by and_intros <;> kernel_rfl
@[simp] theorem tb106 : TY Tryz.prog 106 1 8 false none none none false false ∧ uzero Tryz.prog 106 = some [.nilf] := by and_intros <;> kernel_rfl
@[simp] theorem tb107 : TY Tryz.prog 107 1 8 false none none none false false ∧ uzero Tryz.prog 107 = some [.nilf] := by and_intros <;> kernel_rfl
@[simp] theorem tb108 : TY Tryz.prog 108 1 8 false none none none false false ∧ uzero Tryz.prog 108 = some [.nilf] := by and_intros <;> kernel_rfl
@[simp] theorem tb109 : TY Tryz.prog 109 1 8 false none none none false false ∧ uzero Tryz.prog 109 = some [.nilf] := by and_intros <;> kernel_rfl
@[simp] theorem tb110 : TY Tryz.prog 110 1 8 false none none none false false ∧ uzero Tryz.prog 110 = some [.nilf] := by and_intros <;> kernel_rfl
@[simp] theorem tb111 : TY Tryz.prog 111 1 8 false none none none false false ∧ uzero Tryz.prog 111 = some [.nilf] := by and_intros <;> kernel_rfl
@[simp] theorem tb112 : TY Tryz.prog 112 1 8 false none none none false false ∧ uzero Tryz.prog 112 = some [.nilf] := by and_intros <;> kernel_rfl
@[simp] theorem tb113 : TY Tryz.prog 113 1 8 false none none none false false ∧ uzero Tryz.prog 113 = some [.nilf] := by and_intros <;> kernel_rfl
@[simp] theorem tb114 : TY Tryz.prog 114 1 8 false none none none false false ∧ uzero Tryz.prog 114 = some [.nilf] := by and_intros <;> kernel_rfl
@[simp] theorem tb115 : TY Tryz.prog 115 1 8 false none none none false false ∧ uzero Tryz.prog 115 = some [.nilf] := by and_intros <;> kernel_rfl
@[simp] theorem tb116 : TY Tryz.prog 116 1 8 false none none none false false ∧ uzero Tryz.prog 116 = some [.nilf] := by and_intros <;> kernel_rfl
@[simp] theorem tb117 : TY Tryz.prog 117 1 8 false none none none false false ∧ uzero Tryz.prog 117 = some [.nilf] := by and_intros <;> kernel_rfl
@[simp] theorem tb118 : TY Tryz.prog 118 1 8 false none none none false false ∧ uptr Tryz.prog 118 = true ∧ uzero Tryz.prog 118 = some [.nilp] := by and_intros <;> kernel_rfl
@[simp] theorem tb119 : TY Tryz.prog 119 1 24 false (some 118) none none false false ∧ uzero Tryz.prog 119 = some [.nils] := by and_intros <;> kernel_rfl
@[simp] theorem tb120 : TY Tryz.prog 120 1 8 false none none none false false ∧ uzero Tryz.prog 120 = some [.nilf] := by and_intros <;> kernel_rfl
@[simp] theorem tb121 : TY Tryz.prog 121 1 8 false none none none false false ∧ uzero Tryz.prog 121 = some [.nilf] := by and_intros <;> kernel_rfl
@[simp] theorem tb122 : TY Tryz.prog 122 1 24 false (some 5) none none false false ∧ uzero Tryz.prog 122 = some [.nils] := by and_intros <;> kernel_rfl
@[simp] theorem tb123 : TY Tryz.prog 123 1 8 false none none none false false ∧ uzero Tryz.prog 123 = some [.nilf] := by and_intros <;> kernel_rfl
@[simp] theorem tb124 : TY Tryz.prog 124 4 64 true none none none false false ∧ TF Tryz.prog 124 0 38 0 1 ∧ TF Tryz.prog 124 1 3 1 1 ∧ TF Tryz.prog 124 2 4 2 1 ∧ TF Tryz.prog 124 3 27 3 1 ∧ (uplaces Tryz.prog 124).isSome = true ∧ uzero Tryz.prog 124 = some [.nils, .int .i64 0, .bool false, .nils] := by and_intros <;> kernel_rfl
@[simp] theorem tb125 : TY Tryz.prog 125 4 64 true none none none false false ∧ TF Tryz.prog 125 0 38 0 1 ∧ TF Tryz.prog 125 1 3 1 1 ∧ TF Tryz.prog 125 2 4 2 1 ∧ TF Tryz.prog 125 3 27 3 1 ∧ (uplaces Tryz.prog 125).isSome = true ∧ uzero Tryz.prog 125 = some [.nils, .int .i64 0, .bool false, .nils] := by and_intros <;> kernel_rfl
@[simp] theorem tb126 : TY Tryz.prog 126 1 8 false none none none false false ∧ uzero Tryz.prog 126 = some [.nilf] := by and_intros <;> kernel_rfl
@[simp] theorem tb127 : TY Tryz.prog 127 1 8 false none none none false false ∧ uzero Tryz.prog 127 = some [.nilf] := by and_intros <;> kernel_rfl
@[simp] theorem tb128 : TY Tryz.prog 128 1 0 false none none none false false := by and_intros <;> kernel_rfl
@[simp] theorem tb129 : TY Tryz.prog 129 1 8 false none none none false false ∧ uzero Tryz.prog 129 = some [.nilf] := by and_intros <;> kernel_rfl
@[simp] theorem tb130 : TY Tryz.prog 130 1 0 false none none none false false := by and_intros <;> kernel_rfl
@[simp] theorem tb131 : TY Tryz.prog 131 1 8 false none none none false false ∧ uzero Tryz.prog 131 = some [.nilf] := by and_intros <;> kernel_rfl
@[simp] theorem tb132 : TY Tryz.prog 132 1 8 false none none (some .i64) false false ∧ uzero Tryz.prog 132 = some [.int .i64 0] := by and_intros <;> kernel_rfl
@[simp] theorem tb133 : TY Tryz.prog 133 1 8 false none none none false false ∧ uzero Tryz.prog 133 = some [.nilf] := by and_intros <;> kernel_rfl
@[simp] theorem tb134 : TY Tryz.prog 134 1 8 false none none none false false ∧ uzero Tryz.prog 134 = some [.nilf] := by and_intros <;> kernel_rfl
@[simp] theorem tb135 : TY Tryz.prog 135 1 8 false none none none false false ∧ uzero Tryz.prog 135 = some [.nilf] := by and_intros <;> kernel_rfl
@[simp] theorem tb136 : TY Tryz.prog 136 1 8 false none none none false false ∧ uzero Tryz.prog 136 = some [.nilf] := by and_intros <;> kernel_rfl
@[simp] theorem tb137 : TY Tryz.prog 137 1 8 false none none none false false ∧ uzero Tryz.prog 137 = some [.nilf] := by and_intros <;> kernel_rfl
@[simp] theorem tb138 : TY Tryz.prog 138 1 8 false none none none false false ∧ uzero Tryz.prog 138 = some [.nilf] := by and_intros <;> kernel_rfl
@[simp] theorem tb139 : TY Tryz.prog 139 1 8 false none none none false false ∧ uzero Tryz.prog 139 = some [.nilf] := by and_intros <;> kernel_rfl
@[simp] theorem tb140 : TY Tryz.prog 140 1 8 false none none none false false ∧ uzero Tryz.prog 140 = some [.nilf] := by and_intros <;> kernel_rfl
@[simp] theorem tb141 : TY Tryz.prog 141 1 8 false none none none false false ∧ uzero Tryz.prog 141 = some [.nilf] := by and_intros <;> kernel_rfl
@[simp] theorem tb142 : TY Tryz.prog 142 1 8 false none none none false false ∧ uzero Tryz.prog 142 = some [.nilf] := by and_intros <;> kernel_rfl
@[simp] theorem tb143 : TY Tryz.prog 143 1 8 false none none none false false ∧ uzero Tryz.prog 143 = some [.nilf] := by and_intros <;> kernel_rfl
@[simp] theorem tb144 : TY Tryz.prog 144 1 8 false none none (some .i64) false false ∧ uzero Tryz.prog 144 = some [.int .i64 0] := by and_intros <;> kernel_rfl
@[simp] theorem tb145 : TY Tryz.prog 145 1 0 false none none none false false := by and_intros <;> kernel_rfl
@[simp] theorem tb146 : TY Tryz.prog 146 1 8 false none none none false false ∧ uzero Tryz.prog 146 = some [.nilf] := by and_intros <;> kernel_rfl
@[simp] theorem tb147 : TY Tryz.prog 147 1 8 false none none none false false ∧ uzero Tryz.prog 147 = some [.nilf] := by and_intros <;> kernel_rfl
@[simp] theorem tb148 : TY Tryz.prog 148 1 8 false none none none false false ∧ uzero Tryz.prog 148 = some [.nilf] := by and_intros <;> kernel_rfl
@[simp] theorem tb149 : TY Tryz.prog 149 1 8 false none none none false false ∧ uzero Tryz.prog 149 = some [.nilf] := by and_intros <;> kernel_rfl
@[simp] theorem tb150 : TY Tryz.prog 150 1 8 false none none none false false ∧ uzero Tryz.prog 150 = some [.nilf] := by and_intros <;> kernel_rfl
@[simp] theorem tb151 : TY Tryz.prog 151 1 8 false none none none false false ∧ uzero Tryz.prog 151 = some [.nilf] := by and_intros <;> kernel_rfl
@[simp] theorem tb152 : TY Tryz.prog 152 1 8 false none none none false false ∧ uzero Tryz.prog 152 = some [.nilf] := by and_intros <;> kernel_rfl
@[simp] theorem tb153 : TY Tryz.prog 153 1 8 false none none none false false ∧ uzero Tryz.prog 153 = some [.nilf] := by and_intros <;> kernel_rfl
@[simp] theorem tb154 : TY Tryz.prog 154 1 0 false none none none false false := by and_intros <;> kernel_rfl
@[simp] theorem tb155 : TY Tryz.prog 155 1 8 false none none none false false ∧ uzero Tryz.prog 155 = some [.nilf] := by and_intros <;> kernel_rfl
@[simp] theorem tb156 : TY Tryz.prog 156 1 8 false none none none false false ∧ uzero Tryz.prog 156 = some [.nilf] := by and_intros <;> kernel_rfl
@[simp] theorem tb157 : TY Tryz.prog 157 1 8 false none none none false false ∧ uzero Tryz.prog 157 = some [.nilf] := by and_intros <;> kernel_rfl
@[simp] theorem tb158 : TY Tryz.prog 158 1 8 false none none none false false ∧ uzero Tryz.prog 158 = some [.nilf] := by and_intros <;> kernel_rfl
@[simp] theorem tb159 : TY Tryz.prog 159 1 8 false none none none false false ∧ uzero Tryz.prog 159 = some [.nilf] := by and_intros <;> kernel_rfl
@[simp] theorem tb160 : TY Tryz.prog 160 1 8 false none none none false false ∧ uzero Tryz.prog 160 = some [.nilf] := by and_intros <;> kernel_rfl
@[simp] theorem tb161 : TY Tryz.prog 161 1 8 false none none none false false ∧ uzero Tryz.prog 161 = some [.nilf] := by and_intros <;> kernel_rfl
@[simp] theorem tb162 : TY Tryz.prog 162 1 8 false none none none false false ∧ uzero Tryz.prog 162 = some [.nilf] := by and_intros <;> kernel_rfl
@[simp] theorem tb163 : TY Tryz.prog 163 1 8 false none none none false false ∧ uzero Tryz.prog 163 = some [.nilf] := by and_intros <;> kernel_rfl
@[simp] theorem tb164 : TY Tryz.prog 164 1 8 false none none (some .u64) false false ∧ uzero Tryz.prog 164 = some [.int .u64 0] := by and_intros <;> kernel_rfl
@[simp] theorem tb165 : TY Tryz.prog 165 1 4 false none none (some .u32) false false ∧ uzero Tryz.prog 165 = some [.int .u32 0] := by and_intros <;> kernel_rfl
@[simp] theorem tb166 : TY Tryz.prog 166 1 24 false (some 165) none none false false ∧ uzero Tryz.prog 166 = some [.nils] := by and_intros <;> kernel_rfl
@[simp] theorem tb167 : TY Tryz.prog 167 1 8 false none none none false false ∧ uzero Tryz.prog 167 = some [.nilf] := by and_intros <;> kernel_rfl
@[simp] theorem tb168 : TY Tryz.prog 168 1 8 false none none none false false ∧ uzero Tryz.prog 168 = some [.nilf] := by and_intros <;> kernel_rfl
@[simp] theorem tb169 : TY Tryz.prog 169 1 8 false none none none false false ∧ uzero Tryz.prog 169 = some [.nilf] := by and_intros <;> kernel_rfl
@[simp] theorem tb170 : TY Tryz.prog 170 64 256 true none (some (64, 165)) none false false ∧ (uplaces Tryz.prog 170).isSome = true ∧ uzero Tryz.prog 170 = some (List.replicate 64 (.int .u32 0 : V)) := by and_intros <;> kernel_rfl
@[simp] theorem tb171 : TY Tryz.prog 171 1 8 false none none none false false ∧ uzero Tryz.prog 171 = some [.nilf] := by and_intros <;> kernel_rfl
@[simp] theorem tb172 : TY Tryz.prog 172 1 0 false none none none false false := by and_intros <;> kernel_rfl
@[simp] theorem tb173 : TY Tryz.prog 173 1 8 false none none none false false ∧ uzero Tryz.prog 173 = some [.nilf] := by and_intros <;> kernel_rfl
@[simp] theorem tb174 : TY Tryz.prog 174 1 0 false none none none false false := by and_intros <;> kernel_rfl
@[simp] theorem tb175 : TY Tryz.prog 175 1 8 false none none none false false ∧ uzero Tryz.prog 175 = some [.nilf] := by and_intros <;> kernel_rfl
@[simp] theorem tb176 : TY Tryz.prog 176 256 256 true none (some (256, 5)) none false false ∧ (uplaces Tryz.prog 176).isSome = true ∧ uzero Tryz.prog 176 = some (List.replicate 256 (.int .u8 0 : V)) := by and_intros <;> kernel_rfl
@[simp] theorem tb177 : TY Tryz.prog 177 2 2 true none none none false false ∧ TF Tryz.prog 177 0 5 0 1 ∧ TF Tryz.prog 177 1 5 1 1 ∧ (uplaces Tryz.prog 177).isSome = true ∧ uzero Tryz.prog 177 = some [.int .u8 0, .int .u8 0] := by and_intros <;> kernel_rfl
@[simp] theorem tb178 : TY Tryz.prog 178 2 2 true none none none false false ∧ TF Tryz.prog 178 0 5 0 1 ∧ TF Tryz.prog 178 1 5 1 1 ∧ (uplaces Tryz.prog 178).isSome = true ∧ uzero Tryz.prog 178 = some [.int .u8 0, .int .u8 0] := by and_intros <;> kernel_rfl
@[simp] theorem tb179 : TY Tryz.prog 179 32 32 true none (some (16, 178)) none false false ∧ (uplaces Tryz.prog 179).isSome = true ∧ uzero Tryz.prog 179 = some (List.replicate 32 (.int .u8 0 : V)) := by and_intros <;> kernel_rfl
@[simp] theorem tb180 : TY Tryz.prog 180 1 8 false none none none false false ∧ uzero Tryz.prog 180 = some [.nilf] := by and_intros <;> kernel_rfl
@[simp] theorem tb181 : TY Tryz.prog 181 4 40 true none none none false false ∧ TF Tryz.prog 181 0 17 0 1 ∧ TF Tryz.prog 181 1 17 1 1 ∧ TF Tryz.prog 181 2 17 2 1 ∧ TF Tryz.prog 181 3 9 3 1 ∧ (uplaces Tryz.prog 181).isSome = true ∧ uzero Tryz.prog 181 = some [.nilp, .nilp, .nilp, .str []] := by and_intros <;> kernel_rfl
@[simp] theorem tb182 : TY Tryz.prog 182 4 40 true none none none false false ∧ TF Tryz.prog 182 0 17 0 1 ∧ TF Tryz.prog 182 1 17 1 1 ∧ TF Tryz.prog 182 2 17 2 1 ∧ TF Tryz.prog 182 3 9 3 1 ∧ (uplaces Tryz.prog 182).isSome = true ∧ uzero Tryz.prog 182 = some [.nilp, .nilp, .nilp, .str []] := by and_intros <;> kernel_rfl
@[simp] theorem tb183 : TY Tryz.prog 183 0 0 true none (some (0, 16)) none false false ∧ (uplaces Tryz.prog 183).isSome = true ∧ uzero Tryz.prog 183 = some [] := by and_intros <;> kernel_rfl
@[simp] theorem tb184 : TY Tryz.prog 184 0 0 true none none none false false ∧ TF Tryz.prog 184 0 183 0 0 ∧ (uplaces Tryz.prog 184).isSome = true ∧ uzero Tryz.prog 184 = some [] := by and_intros <;> kernel_rfl
@[simp] theorem tb185 : TY Tryz.prog 185 0 0 true none none none false false ∧ TF Tryz.prog 185 0 183 0 0 ∧ (uplaces Tryz.prog 185).isSome = true ∧ uzero Tryz.prog 185 = some [] := by and_intros <;> kernel_rfl
@[simp] theorem tb186 : TY Tryz.prog 186 1 8 false none none none false false ∧ uzero Tryz.prog 186 = some [.nilf] := by and_intros <;> kernel_rfl
@[simp] theorem tb187 : TY Tryz.prog 187 1 1 false none none (some .u8) false false ∧ uzero Tryz.prog 187 = some [.int .u8 0] := by and_intros <;> kernel_rfl
@[simp] theorem tb188 : TY Tryz.prog 188 1 1 false none none (some .u8) false false ∧ uzero Tryz.prog 188 = some [.int .u8 0] := by and_intros <;> kernel_rfl
@[simp] theorem tb189 : TY Tryz.prog 189 1 8 false none none none false false ∧ uzero Tryz.prog 189 = some [.nilf] := by and_intros <;> kernel_rfl
@[simp] theorem tb190 : TY Tryz.prog 190 1 8 false none none none false false ∧ uptr Tryz.prog 190 = true ∧ uzero Tryz.prog 190 = some [.nilp] := by and_intros <;> kernel_rfl
@[simp] theorem tb191 : TY Tryz.prog 191 1 4 false none none (some .i32) false false ∧ uzero Tryz.prog 191 = some [.int .i32 0] := by and_intros <;> kernel_rfl
@[simp] theorem tb192 : TY Tryz.prog 192 1 4 false none none (some .i32) false false ∧ uzero Tryz.prog 192 = some [.int .i32 0] := by and_intros <;> kernel_rfl
@[simp] theorem tb193 : TY Tryz.prog 193 11 48 true none none none false false ∧ TF Tryz.prog 193 0 12 0 1 ∧ TF Tryz.prog 193 1 12 1 1 ∧ TF Tryz.prog 193 2 165 2 1 ∧ TF Tryz.prog 193 3 187 3 1 ∧ TF Tryz.prog 193 4 5 4 1 ∧ TF Tryz.prog 193 5 5 5 1 ∧ TF Tryz.prog 193 6 188 6 1 ∧ TF Tryz.prog 193 7 189 7 1 ∧ TF Tryz.prog 193 8 190 8 1 ∧ TF Tryz.prog 193 9 191 9 1 ∧ TF Tryz.prog 193 10 192 10 1 ∧ (uplaces Tryz.prog 193).isSome = true ∧ uzero Tryz.prog 193 = some [.int .u64 0, .int .u64 0, .int .u32 0, .int .u8 0, .int .u8 0, .int .u8 0, .int .u8 0, .nilf, .nilp, .int .i32 0, .int .i32 0] := by and_intros <;> kernel_rfl
@[simp] theorem tb194 : TY Tryz.prog 194 11 48 true none none none false false ∧ TF Tryz.prog 194 0 12 0 1 ∧ TF Tryz.prog 194 1 12 1 1 ∧ TF Tryz.prog 194 2 165 2 1 ∧ TF Tryz.prog 194 3 187 3 1 ∧ TF Tryz.prog 194 4 5 4 1 ∧ TF Tryz.prog 194 5 5 5 1 ∧ TF Tryz.prog 194 6 188 6 1 ∧ TF Tryz.prog 194 7 189 7 1 ∧ TF Tryz.prog 194 8 190 8 1 ∧ TF Tryz.prog 194 9 191 9 1 ∧ TF Tryz.prog 194 10 192 10 1 ∧ (uplaces Tryz.prog 194).isSome = true ∧ uzero Tryz.prog 194 = some [.int .u64 0, .int .u64 0, .int .u32 0, .int .u8 0, .int .u8 0, .int .u8 0, .int .u8 0, .nilf, .nilp, .int .i32 0, .int .i32 0] := by and_intros <;> kernel_rfl
@[simp] theorem tb195 : TY Tryz.prog 195 1 8 false none none none false false ∧ uzero Tryz.prog 195 = some [.nilp] := by and_intros <;> kernel_rfl
@[simp] theorem uplace170 (i : Nat) : uplace Tryz.prog 170 i = some (i * 1, 1) := by kernel_rfl
@[simp] theorem uplace176 (i : Nat) : uplace Tryz.prog 176 i = some (i * 1, 1) := by kernel_rfl
@[simp] theorem uplace179 (i : Nat) : uplace Tryz.prog 179 i = some (i * 2, 2) := by kernel_rfl
@[simp] theorem uplace183 (i : Nat) : uplace Tryz.prog 183 i = some (i * 1, 1) := by kernel_rfl

end Go.Proofs.YtcfmanhblonjeaaGreatDoor
