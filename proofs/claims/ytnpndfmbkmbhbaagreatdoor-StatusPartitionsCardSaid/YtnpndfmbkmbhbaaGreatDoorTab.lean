/-
 VALUE SEMANTICS: what the program's type table says, type by type. Printed by gentab.py.
 Conditions: none.
-/
import Derived.Test.YtnpndfmbkmbhbaaGreatDoorGc
import Derived.Test.YtnpndfmbkmbhbaaGreatDoorRows
namespace Go.Proofs.YtnpndfmbkmbhbaaGreatDoor
open Go.Proofs.Tryz
open Go.VS

abbrev TY (P : Program) (t n b : Nat) (a : Bool) (s : Option TypeId) (r : Option (Nat × TypeId)) (i : Option IntKind) (c f : Bool) : Prop := usz P t = some n ∧ ubytes P t = some b ∧ uagg P t = some a ∧ uslice P t = s ∧ uarr P t = r ∧ uint P t = i ∧ ustr P t = c ∧ uiface P t = some f
abbrev TF (P : Program) (t k f o n : Nat) : Prop := ufield P t k = some (f, o) ∧ uplace P t k = some (o, n)
@[simp] theorem tb0 : TY prog 0 1 0 false none none none false false := by and_intros <;> kernel_rfl
@[simp] theorem tb1 : TY prog 1 1 8 false none none none false false ∧ uzero prog 1 = some [.nilf] := by and_intros <;> kernel_rfl
@[simp] theorem tb2 : TY prog 2 1 8 false none none (some .i64) false false ∧ uzero prog 2 = some [.int .i64 0] := by and_intros <;> kernel_rfl
@[simp] theorem tb3 : TY prog 3 1 8 false none none (some .i64) false false ∧ uzero prog 3 = some [.int .i64 0] := by and_intros <;> kernel_rfl
@[simp] theorem tb4 : TY prog 4 1 1 false none none none false false ∧ ubool prog 4 = true ∧ uzero prog 4 = some [.bool false] := by and_intros <;> kernel_rfl
@[simp] theorem tb5 : TY prog 5 1 1 false none none (some .u8) false false ∧ uzero prog 5 = some [.int .u8 0] := by and_intros <;> kernel_rfl
@[simp] theorem tb6 : TY prog 6 1 1 false none none (some .u8) false false ∧ uzero prog 6 = some [.int .u8 0] := by and_intros <;> kernel_rfl
@[simp] theorem tb7 : TY prog 7 4 24 true none none none false false ∧ TF prog 7 0 2 0 1 ∧ TF prog 7 1 3 1 1 ∧ TF prog 7 2 4 2 1 ∧ TF prog 7 3 6 3 1 ∧ (uplaces prog 7).isSome = true ∧ uzero prog 7 = some [.int .i64 0, .int .i64 0, .bool false, .int .u8 0] := by and_intros <;> kernel_rfl
@[simp] theorem tb8 : TY prog 8 4 24 true none none none false false ∧ TF prog 8 0 2 0 1 ∧ TF prog 8 1 3 1 1 ∧ TF prog 8 2 4 2 1 ∧ TF prog 8 3 6 3 1 ∧ (uplaces prog 8).isSome = true ∧ uzero prog 8 = some [.int .i64 0, .int .i64 0, .bool false, .int .u8 0] := by and_intros <;> kernel_rfl
@[simp] theorem tb9 : TY prog 9 1 16 false none none none true false ∧ uzero prog 9 = some [.str []] := by and_intros <;> kernel_rfl
@[simp] theorem tb10 : TY prog 10 1 16 false none none none true false ∧ uzero prog 10 = some [.str []] := by and_intros <;> kernel_rfl
@[simp] theorem tb11 : TY prog 11 1 16 false none none none true false ∧ uzero prog 11 = some [.str []] := by and_intros <;> kernel_rfl
@[simp] theorem tb12 : TY prog 12 1 8 false none none (some .u64) false false ∧ uzero prog 12 = some [.int .u64 0] := by and_intros <;> kernel_rfl
@[simp] theorem tb13 : TY prog 13 2 24 true none none none false false ∧ TF prog 13 0 9 0 1 ∧ TF prog 13 1 12 1 1 ∧ (uplaces prog 13).isSome = true ∧ uzero prog 13 = some [.str [], .int .u64 0] := by and_intros <;> kernel_rfl
@[simp] theorem tb14 : TY prog 14 2 24 true none none none false false ∧ TF prog 14 0 9 0 1 ∧ TF prog 14 1 12 1 1 ∧ (uplaces prog 14).isSome = true ∧ uzero prog 14 = some [.str [], .int .u64 0] := by and_intros <;> kernel_rfl
@[simp] theorem tb15 : TY prog 15 1 8 false none none none false false ∧ uptr prog 15 = true ∧ uzero prog 15 = some [.nilp] := by and_intros <;> kernel_rfl
@[simp] theorem tb16 : TY prog 16 1 8 false none none none false false ∧ uptr prog 16 = true ∧ uzero prog 16 = some [.nilp] := by and_intros <;> kernel_rfl
@[simp] theorem tb17 : TY prog 17 1 8 false none none none false false ∧ uptr prog 17 = true ∧ uzero prog 17 = some [.nilp] := by and_intros <;> kernel_rfl
@[simp] theorem tb18 : TY prog 18 1 8 true none none none false false ∧ TF prog 18 0 17 0 1 ∧ (uplaces prog 18).isSome = true ∧ uzero prog 18 = some [.nilp] := by and_intros <;> kernel_rfl
@[simp] theorem tb19 : TY prog 19 1 8 true none none none false false ∧ TF prog 19 0 17 0 1 ∧ (uplaces prog 19).isSome = true ∧ uzero prog 19 = some [.nilp] := by and_intros <;> kernel_rfl
@[simp] theorem tb20 : TY prog 20 1 16 false none none none false true ∧ uzero prog 20 = some [.niface] := by and_intros <;> kernel_rfl
@[simp] theorem tb21 : TY prog 21 1 4 false none none (some .i32) false false ∧ uzero prog 21 = some [.int .i32 0] := by and_intros <;> kernel_rfl
@[simp] theorem tb22 : TY prog 22 1 8 false none none none false false ∧ uptr prog 22 = true ∧ uzero prog 22 = some [.nilp] := by and_intros <;> kernel_rfl
@[simp] theorem tb23 : TY prog 23 1 8 false none none none false false ∧ uzero prog 23 = some [.nilf] := by and_intros <;> kernel_rfl
@[simp] theorem tb24 : TY prog 24 1 24 false (some 3) none none false false ∧ uzero prog 24 = some [.nils] := by and_intros <;> kernel_rfl
@[simp] theorem tb25 : TY prog 25 1 8 false none none none false false ∧ uzero prog 25 = some [.nilf] := by and_intros <;> kernel_rfl
@[simp] theorem tb26 : TY prog 26 1 24 false (some 91) none none false false ∧ uzero prog 26 = some [.nils] := by and_intros <;> kernel_rfl
@[simp] theorem tb27 : TY prog 27 1 24 true none none none false false ∧ TF prog 27 0 26 0 1 ∧ (uplaces prog 27).isSome = true ∧ uzero prog 27 = some [.nils] := by and_intros <;> kernel_rfl
@[simp] theorem tb28 : TY prog 28 1 24 true none none none false false ∧ TF prog 28 0 26 0 1 ∧ (uplaces prog 28).isSome = true ∧ uzero prog 28 = some [.nils] := by and_intros <;> kernel_rfl
@[simp] theorem tb29 : TY prog 29 1 24 false (some 145) none none false false ∧ uzero prog 29 = some [.nils] := by and_intros <;> kernel_rfl
@[simp] theorem tb30 : TY prog 30 5 48 true none none none false false ∧ TF prog 30 0 29 0 1 ∧ TF prog 30 1 4 1 1 ∧ TF prog 30 2 4 2 1 ∧ TF prog 30 3 3 3 1 ∧ TF prog 30 4 4 4 1 ∧ (uplaces prog 30).isSome = true ∧ uzero prog 30 = some [.nils, .bool false, .bool false, .int .i64 0, .bool false] := by and_intros <;> kernel_rfl
@[simp] theorem tb31 : TY prog 31 5 48 true none none none false false ∧ TF prog 31 0 29 0 1 ∧ TF prog 31 1 4 1 1 ∧ TF prog 31 2 4 2 1 ∧ TF prog 31 3 3 3 1 ∧ TF prog 31 4 4 4 1 ∧ (uplaces prog 31).isSome = true ∧ uzero prog 31 = some [.nils, .bool false, .bool false, .int .i64 0, .bool false] := by and_intros <;> kernel_rfl
@[simp] theorem tb32 : TY prog 32 1 24 false (some 74) none none false false ∧ uzero prog 32 = some [.nils] := by and_intros <;> kernel_rfl
@[simp] theorem tb33 : TY prog 33 1 24 false (some 70) none none false false ∧ uzero prog 33 = some [.nils] := by and_intros <;> kernel_rfl
@[simp] theorem tb34 : TY prog 34 17 224 true none none none false false ∧ TF prog 34 0 9 0 1 ∧ TF prog 34 1 9 1 1 ∧ TF prog 34 2 28 2 1 ∧ TF prog 34 3 3 3 1 ∧ TF prog 34 4 3 4 1 ∧ TF prog 34 5 3 5 1 ∧ TF prog 34 6 3 6 1 ∧ TF prog 34 7 9 7 1 ∧ TF prog 34 8 4 8 1 ∧ TF prog 34 9 31 9 5 ∧ TF prog 34 10 32 14 1 ∧ TF prog 34 11 33 15 1 ∧ TF prog 34 12 9 16 1 ∧ (uplaces prog 34).isSome = true ∧ uzero prog 34 = some [.str [], .str [], .nils, .int .i64 0, .int .i64 0, .int .i64 0, .int .i64 0, .str [], .bool false, .nils, .bool false, .bool false, .int .i64 0, .bool false, .nils, .nils, .str []] := by and_intros <;> kernel_rfl
@[simp] theorem tb35 : TY prog 35 17 224 true none none none false false ∧ TF prog 35 0 9 0 1 ∧ TF prog 35 1 9 1 1 ∧ TF prog 35 2 28 2 1 ∧ TF prog 35 3 3 3 1 ∧ TF prog 35 4 3 4 1 ∧ TF prog 35 5 3 5 1 ∧ TF prog 35 6 3 6 1 ∧ TF prog 35 7 9 7 1 ∧ TF prog 35 8 4 8 1 ∧ TF prog 35 9 31 9 5 ∧ TF prog 35 10 32 14 1 ∧ TF prog 35 11 33 15 1 ∧ TF prog 35 12 9 16 1 ∧ (uplaces prog 35).isSome = true ∧ uzero prog 35 = some [.str [], .str [], .nils, .int .i64 0, .int .i64 0, .int .i64 0, .int .i64 0, .str [], .bool false, .nils, .bool false, .bool false, .int .i64 0, .bool false, .nils, .nils, .str []] := by and_intros <;> kernel_rfl
@[simp] theorem tb36 : TY prog 36 1 8 false none none none false false ∧ uzero prog 36 = some [.nilf] := by and_intros <;> kernel_rfl
@[simp] theorem tb37 : TY prog 37 1 24 false (some 35) none none false false ∧ uzero prog 37 = some [.nils] := by and_intros <;> kernel_rfl
@[simp] theorem tb38 : TY prog 38 3 40 true none none none false false ∧ TF prog 38 0 3 0 1 ∧ TF prog 38 1 9 1 1 ∧ TF prog 38 2 9 2 1 ∧ (uplaces prog 38).isSome = true ∧ uzero prog 38 = some [.int .i64 0, .str [], .str []] := by and_intros <;> kernel_rfl
@[simp] theorem tb39 : TY prog 39 3 40 true none none none false false ∧ TF prog 39 0 3 0 1 ∧ TF prog 39 1 9 1 1 ∧ TF prog 39 2 9 2 1 ∧ (uplaces prog 39).isSome = true ∧ uzero prog 39 = some [.int .i64 0, .str [], .str []] := by and_intros <;> kernel_rfl
@[simp] theorem tb40 : TY prog 40 4 64 true none none none false false ∧ TF prog 40 0 28 0 1 ∧ TF prog 40 1 39 1 3 ∧ (uplaces prog 40).isSome = true ∧ uzero prog 40 = some [.nils, .int .i64 0, .str [], .str []] := by and_intros <;> kernel_rfl
@[simp] theorem tb41 : TY prog 41 4 64 true none none none false false ∧ TF prog 41 0 28 0 1 ∧ TF prog 41 1 39 1 3 ∧ (uplaces prog 41).isSome = true ∧ uzero prog 41 = some [.nils, .int .i64 0, .str [], .str []] := by and_intros <;> kernel_rfl
@[simp] theorem tb42 : TY prog 42 1 8 false none none none false false ∧ uzero prog 42 = some [.nilf] := by and_intros <;> kernel_rfl
@[simp] theorem tb43 : TY prog 43 1 24 false (some 41) none none false false ∧ uzero prog 43 = some [.nils] := by and_intros <;> kernel_rfl
@[simp] theorem tb44 : TY prog 44 1 8 false none none none false false ∧ uzero prog 44 = some [.nilf] := by and_intros <;> kernel_rfl
@[simp] theorem tb45 : TY prog 45 1 24 false (some 9) none none false false ∧ uzero prog 45 = some [.nils] := by and_intros <;> kernel_rfl
@[simp] theorem tb46 : TY prog 46 1 24 false (some 315) none none false false ∧ uzero prog 46 = some [.nils] := by and_intros <;> kernel_rfl
@[simp] theorem tb47 : TY prog 47 2 48 true none none none false false ∧ TF prog 47 0 29 0 1 ∧ TF prog 47 1 29 1 1 ∧ (uplaces prog 47).isSome = true ∧ uzero prog 47 = some [.nils, .nils] := by and_intros <;> kernel_rfl
@[simp] theorem tb48 : TY prog 48 2 48 true none none none false false ∧ TF prog 48 0 29 0 1 ∧ TF prog 48 1 29 1 1 ∧ (uplaces prog 48).isSome = true ∧ uzero prog 48 = some [.nils, .nils] := by and_intros <;> kernel_rfl
@[simp] theorem tb49 : TY prog 49 1 24 false (some 165) none none false false ∧ uzero prog 49 = some [.nils] := by and_intros <;> kernel_rfl
@[simp] theorem tb50 : TY prog 50 19 304 true none none none false false ∧ TF prog 50 0 4 0 1 ∧ TF prog 50 1 4 1 1 ∧ TF prog 50 2 3 2 1 ∧ TF prog 50 3 3 3 1 ∧ TF prog 50 4 45 4 1 ∧ TF prog 50 5 45 5 1 ∧ TF prog 50 6 46 6 1 ∧ TF prog 50 7 3 7 1 ∧ TF prog 50 8 3 8 1 ∧ TF prog 50 9 3 9 1 ∧ TF prog 50 10 29 10 1 ∧ TF prog 50 11 4 11 1 ∧ TF prog 50 12 48 12 2 ∧ TF prog 50 13 9 14 1 ∧ TF prog 50 14 9 15 1 ∧ TF prog 50 15 32 16 1 ∧ TF prog 50 16 32 17 1 ∧ TF prog 50 17 49 18 1 ∧ (uplaces prog 50).isSome = true ∧ uzero prog 50 = some [.bool false, .bool false, .int .i64 0, .int .i64 0, .nils, .nils, .nils, .int .i64 0, .int .i64 0, .int .i64 0, .nils, .bool false, .nils, .nils, .str [], .str [], .nils, .nils, .nils] := by and_intros <;> kernel_rfl
@[simp] theorem tb51 : TY prog 51 19 304 true none none none false false ∧ TF prog 51 0 4 0 1 ∧ TF prog 51 1 4 1 1 ∧ TF prog 51 2 3 2 1 ∧ TF prog 51 3 3 3 1 ∧ TF prog 51 4 45 4 1 ∧ TF prog 51 5 45 5 1 ∧ TF prog 51 6 46 6 1 ∧ TF prog 51 7 3 7 1 ∧ TF prog 51 8 3 8 1 ∧ TF prog 51 9 3 9 1 ∧ TF prog 51 10 29 10 1 ∧ TF prog 51 11 4 11 1 ∧ TF prog 51 12 48 12 2 ∧ TF prog 51 13 9 14 1 ∧ TF prog 51 14 9 15 1 ∧ TF prog 51 15 32 16 1 ∧ TF prog 51 16 32 17 1 ∧ TF prog 51 17 49 18 1 ∧ (uplaces prog 51).isSome = true ∧ uzero prog 51 = some [.bool false, .bool false, .int .i64 0, .int .i64 0, .nils, .nils, .nils, .int .i64 0, .int .i64 0, .int .i64 0, .nils, .bool false, .nils, .nils, .str [], .str [], .nils, .nils, .nils] := by and_intros <;> kernel_rfl
@[simp] theorem tb52 : TY prog 52 30 464 true none none none false false ∧ TF prog 52 0 9 0 1 ∧ TF prog 52 1 9 1 1 ∧ TF prog 52 2 3 2 1 ∧ TF prog 52 3 28 3 1 ∧ TF prog 52 4 28 4 1 ∧ TF prog 52 5 3 5 1 ∧ TF prog 52 6 3 6 1 ∧ TF prog 52 7 39 7 3 ∧ TF prog 52 8 51 10 19 ∧ TF prog 52 9 9 29 1 ∧ (uplaces prog 52).isSome = true ∧ uzero prog 52 = some [.str [], .str [], .int .i64 0, .nils, .nils, .int .i64 0, .int .i64 0, .int .i64 0, .str [], .str [], .bool false, .bool false, .int .i64 0, .int .i64 0, .nils, .nils, .nils, .int .i64 0, .int .i64 0, .int .i64 0, .nils, .bool false, .nils, .nils, .str [], .str [], .nils, .nils, .nils, .str []] := by and_intros <;> kernel_rfl
@[simp] theorem tb53 : TY prog 53 30 464 true none none none false false ∧ TF prog 53 0 9 0 1 ∧ TF prog 53 1 9 1 1 ∧ TF prog 53 2 3 2 1 ∧ TF prog 53 3 28 3 1 ∧ TF prog 53 4 28 4 1 ∧ TF prog 53 5 3 5 1 ∧ TF prog 53 6 3 6 1 ∧ TF prog 53 7 39 7 3 ∧ TF prog 53 8 51 10 19 ∧ TF prog 53 9 9 29 1 ∧ (uplaces prog 53).isSome = true ∧ uzero prog 53 = some [.str [], .str [], .int .i64 0, .nils, .nils, .int .i64 0, .int .i64 0, .int .i64 0, .str [], .str [], .bool false, .bool false, .int .i64 0, .int .i64 0, .nils, .nils, .nils, .int .i64 0, .int .i64 0, .int .i64 0, .nils, .bool false, .nils, .nils, .str [], .str [], .nils, .nils, .nils, .str []] := by and_intros <;> kernel_rfl
@[simp] theorem tb54 : TY prog 54 1 8 false none none none false false ∧ uzero prog 54 = some [.nilf] := by and_intros <;> kernel_rfl
@[simp] theorem tb55 : TY prog 55 1 24 false (some 60) none none false false ∧ uzero prog 55 = some [.nils] := by and_intros <;> kernel_rfl
@[simp] theorem tb56 : TY prog 56 1 8 false none none none false false ∧ uzero prog 56 = some [.nilf] := by and_intros <;> kernel_rfl
@[simp] theorem tb57 : TY prog 57 1 8 false none none none false false ∧ uzero prog 57 = some [.nilf] := by and_intros <;> kernel_rfl
@[simp] theorem tb58 : TY prog 58 1 8 false none none none false false ∧ uzero prog 58 = some [.nilf] := by and_intros <;> kernel_rfl
@[simp] theorem tb59 : TY prog 59 2 16 true none none none false false ∧ TF prog 59 0 3 0 1 ∧ TF prog 59 1 3 1 1 ∧ (uplaces prog 59).isSome = true ∧ uzero prog 59 = some [.int .i64 0, .int .i64 0] := by and_intros <;> kernel_rfl
@[simp] theorem tb60 : TY prog 60 2 16 true none none none false false ∧ TF prog 60 0 3 0 1 ∧ TF prog 60 1 3 1 1 ∧ (uplaces prog 60).isSome = true ∧ uzero prog 60 = some [.int .i64 0, .int .i64 0] := by and_intros <;> kernel_rfl
@[simp] theorem tb61 : TY prog 61 1 8 false none none none false false ∧ uzero prog 61 = some [.nilf] := by and_intros <;> kernel_rfl
@[simp] theorem tb62 : TY prog 62 1 8 false none none none false false ∧ uzero prog 62 = some [.nilf] := by and_intros <;> kernel_rfl
@[simp] theorem tb63 : TY prog 63 1 8 false none none none false false ∧ uzero prog 63 = some [.nilf] := by and_intros <;> kernel_rfl
@[simp] theorem tb64 : TY prog 64 1 8 false none none none false false ∧ uzero prog 64 = some [.nilf] := by and_intros <;> kernel_rfl
@[simp] theorem tb65 : TY prog 65 1 24 false (some 45) none none false false ∧ uzero prog 65 = some [.nils] := by and_intros <;> kernel_rfl
@[simp] theorem tb66 : TY prog 66 3 56 true none none none false false ∧ TF prog 66 0 9 0 1 ∧ TF prog 66 1 9 1 1 ∧ TF prog 66 2 65 2 1 ∧ (uplaces prog 66).isSome = true ∧ uzero prog 66 = some [.str [], .str [], .nils] := by and_intros <;> kernel_rfl
@[simp] theorem tb67 : TY prog 67 3 56 true none none none false false ∧ TF prog 67 0 9 0 1 ∧ TF prog 67 1 9 1 1 ∧ TF prog 67 2 65 2 1 ∧ (uplaces prog 67).isSome = true ∧ uzero prog 67 = some [.str [], .str [], .nils] := by and_intros <;> kernel_rfl
@[simp] theorem tb68 : TY prog 68 1 8 false none none none false false ∧ uzero prog 68 = some [.nilf] := by and_intros <;> kernel_rfl
@[simp] theorem tb69 : TY prog 69 5 56 true none none none false false ∧ TF prog 69 0 3 0 1 ∧ TF prog 69 1 3 1 1 ∧ TF prog 69 2 3 2 1 ∧ TF prog 69 3 3 3 1 ∧ TF prog 69 4 28 4 1 ∧ (uplaces prog 69).isSome = true ∧ uzero prog 69 = some [.int .i64 0, .int .i64 0, .int .i64 0, .int .i64 0, .nils] := by and_intros <;> kernel_rfl
@[simp] theorem tb70 : TY prog 70 5 56 true none none none false false ∧ TF prog 70 0 3 0 1 ∧ TF prog 70 1 3 1 1 ∧ TF prog 70 2 3 2 1 ∧ TF prog 70 3 3 3 1 ∧ TF prog 70 4 28 4 1 ∧ (uplaces prog 70).isSome = true ∧ uzero prog 70 = some [.int .i64 0, .int .i64 0, .int .i64 0, .int .i64 0, .nils] := by and_intros <;> kernel_rfl
@[simp] theorem tb71 : TY prog 71 1 8 false none none none false false ∧ uzero prog 71 = some [.nilf] := by and_intros <;> kernel_rfl
@[simp] theorem tb72 : TY prog 72 1 8 false none none none false false ∧ uzero prog 72 = some [.nilf] := by and_intros <;> kernel_rfl
@[simp] theorem tb73 : TY prog 73 4 64 true none none none false false ∧ TF prog 73 0 29 0 1 ∧ TF prog 73 1 3 1 1 ∧ TF prog 73 2 4 2 1 ∧ TF prog 73 3 28 3 1 ∧ (uplaces prog 73).isSome = true ∧ uzero prog 73 = some [.nils, .int .i64 0, .bool false, .nils] := by and_intros <;> kernel_rfl
@[simp] theorem tb74 : TY prog 74 4 64 true none none none false false ∧ TF prog 74 0 29 0 1 ∧ TF prog 74 1 3 1 1 ∧ TF prog 74 2 4 2 1 ∧ TF prog 74 3 28 3 1 ∧ (uplaces prog 74).isSome = true ∧ uzero prog 74 = some [.nils, .int .i64 0, .bool false, .nils] := by and_intros <;> kernel_rfl
@[simp] theorem tb75 : TY prog 75 1 8 false none none none false false ∧ uzero prog 75 = some [.nilf] := by and_intros <;> kernel_rfl
@[simp] theorem tb76 : TY prog 76 2 32 true none none none false false ∧ TF prog 76 0 24 0 1 ∧ TF prog 76 1 3 1 1 ∧ (uplaces prog 76).isSome = true ∧ uzero prog 76 = some [.nils, .int .i64 0] := by and_intros <;> kernel_rfl
@[simp] theorem tb77 : TY prog 77 2 32 true none none none false false ∧ TF prog 77 0 24 0 1 ∧ TF prog 77 1 3 1 1 ∧ (uplaces prog 77).isSome = true ∧ uzero prog 77 = some [.nils, .int .i64 0] := by and_intros <;> kernel_rfl
@[simp] theorem tb78 : TY prog 78 1 8 false none none none false false ∧ uzero prog 78 = some [.nilf] := by and_intros <;> kernel_rfl
@[simp] theorem tb79 : TY prog 79 1 8 false none none none false false ∧ uzero prog 79 = some [.nilf] := by and_intros <;> kernel_rfl
@[simp] theorem tb80 : TY prog 80 1 8 false none none none false false ∧ uzero prog 80 = some [.nilf] := by and_intros <;> kernel_rfl
@[simp] theorem tb81 : TY prog 81 1 24 false (some 4) none none false false ∧ uzero prog 81 = some [.nils] := by and_intros <;> kernel_rfl
@[simp] theorem tb82 : TY prog 82 33 520 true none none none false false ∧ TF prog 82 0 53 0 30 ∧ TF prog 82 1 37 30 1 ∧ TF prog 82 2 81 31 1 ∧ TF prog 82 3 3 32 1 ∧ (uplaces prog 82).isSome = true ∧ uzero prog 82 = some [.str [], .str [], .int .i64 0, .nils, .nils, .int .i64 0, .int .i64 0, .int .i64 0, .str [], .str [], .bool false, .bool false, .int .i64 0, .int .i64 0, .nils, .nils, .nils, .int .i64 0, .int .i64 0, .int .i64 0, .nils, .bool false, .nils, .nils, .str [], .str [], .nils, .nils, .nils, .str [], .nils, .nils, .int .i64 0] := by and_intros <;> kernel_rfl
@[simp] theorem tb83 : TY prog 83 33 520 true none none none false false ∧ TF prog 83 0 53 0 30 ∧ TF prog 83 1 37 30 1 ∧ TF prog 83 2 81 31 1 ∧ TF prog 83 3 3 32 1 ∧ (uplaces prog 83).isSome = true ∧ uzero prog 83 = some [.str [], .str [], .int .i64 0, .nils, .nils, .int .i64 0, .int .i64 0, .int .i64 0, .str [], .str [], .bool false, .bool false, .int .i64 0, .int .i64 0, .nils, .nils, .nils, .int .i64 0, .int .i64 0, .int .i64 0, .nils, .bool false, .nils, .nils, .str [], .str [], .nils, .nils, .nils, .str [], .nils, .nils, .int .i64 0] := by and_intros <;> kernel_rfl
@[simp] theorem tb84 : TY prog 84 1 8 false none none none false false ∧ uzero prog 84 = some [.nilf] := by and_intros <;> kernel_rfl
@[simp] theorem tb85 : TY prog 85 1 8 false none none none false false ∧ uzero prog 85 = some [.nilf] := by and_intros <;> kernel_rfl
@[simp] theorem tb86 : TY prog 86 1 8 false none none none false false ∧ uzero prog 86 = some [.nilf] := by and_intros <;> kernel_rfl
@[simp] theorem tb87 : TY prog 87 1 8 false none none none false false ∧ uzero prog 87 = some [.nilf] := by and_intros <;> kernel_rfl
@[simp] theorem tb88 : TY prog 88 1 8 false none none none false false ∧ uzero prog 88 = some [.nilf] := by and_intros <;> kernel_rfl
@[simp] theorem tb89 : TY prog 89 3 40 true none none none false false ∧ TF prog 89 0 9 0 1 ∧ TF prog 89 1 3 1 1 ∧ TF prog 89 2 9 2 1 ∧ (uplaces prog 89).isSome = true ∧ uzero prog 89 = some [.str [], .int .i64 0, .str []] := by and_intros <;> kernel_rfl
@[simp] theorem tb90 : TY prog 90 3 40 true none none none false false ∧ TF prog 90 0 9 0 1 ∧ TF prog 90 1 3 1 1 ∧ TF prog 90 2 9 2 1 ∧ (uplaces prog 90).isSome = true ∧ uzero prog 90 = some [.str [], .int .i64 0, .str []] := by and_intros <;> kernel_rfl
@[simp] theorem tb91 : TY prog 91 1 24 false (some 90) none none false false ∧ uzero prog 91 = some [.nils] := by and_intros <;> kernel_rfl
@[simp] theorem tb92 : TY prog 92 1 8 false none none (some .i64) false false ∧ uzero prog 92 = some [.int .i64 0] := by and_intros <;> kernel_rfl
@[simp] theorem tb93 : TY prog 93 1 0 false none none none false false := by and_intros <;> kernel_rfl
@[simp] theorem tb94 : TY prog 94 1 8 false none none none false false ∧ uzero prog 94 = some [.nilf] := by and_intros <;> kernel_rfl
@[simp] theorem tb95 : TY prog 95 1 8 false none none none false false ∧ uzero prog 95 = some [.nilf] := by and_intros <;> kernel_rfl
@[simp] theorem tb96 : TY prog 96 1 8 false none none none false false ∧ uzero prog 96 = some [.nilf] := by and_intros <;> kernel_rfl
@[simp] theorem tb97 : TY prog 97 1 0 false none none none false false := by and_intros <;> kernel_rfl
@[simp] theorem tb98 : TY prog 98 1 8 false none none none false false ∧ uzero prog 98 = some [.nilf] := by and_intros <;> kernel_rfl
@[simp] theorem tb99 : TY prog 99 1 8 false none none none false false ∧ uzero prog 99 = some [.nilf] := by and_intros <;> kernel_rfl
@[simp] theorem tb100 : TY prog 100 1 8 false none none none false false ∧ uzero prog 100 = some [.nilf] := by and_intros <;> kernel_rfl
@[simp] theorem tb101 : TY prog 101 1 0 false none none none false false := by and_intros <;> kernel_rfl
@[simp] theorem tb102 : TY prog 102 1 8 false none none none false false ∧ uzero prog 102 = some [.nilf] := by and_intros <;> kernel_rfl
@[simp] theorem tb103 : TY prog 103 1 8 false none none none false false ∧ uzero prog 103 = some [.nilf] := by and_intros <;> kernel_rfl
@[simp] theorem tb104 : TY prog 104 1 0 false none none none false false := by and_intros <;> kernel_rfl
@[simp] theorem tb105 : TY prog 105 1 8 false none none none false false ∧ uzero prog 105 = some [.nilf] := by and_intros <;> kernel_rfl
@[simp] theorem tb106 : TY prog 106 1 8 false none none none false false ∧ uzero prog 106 = some [.nilf] := by and_intros <;> kernel_rfl
@[simp] theorem tb107 : TY prog 107 1 8 false none none none false false ∧ uzero prog 107 = some [.nilf] := by and_intros <;> kernel_rfl
@[simp] theorem tb108 : TY prog 108 1 8 false none none none false false ∧ uzero prog 108 = some [.nilf] := by and_intros <;> kernel_rfl
@[simp] theorem tb109 : TY prog 109 1 8 false none none none false false ∧ uzero prog 109 = some [.nilf] := by and_intros <;> kernel_rfl
@[simp] theorem tb110 : TY prog 110 1 24 false (some 5) none none false false ∧ uzero prog 110 = some [.nils] := by and_intros <;> kernel_rfl
@[simp] theorem tb111 : TY prog 111 1 8 false none none none false false ∧ uzero prog 111 = some [.nilf] := by and_intros <;> kernel_rfl
@[simp] theorem tb112 : TY prog 112 1 8 false none none none false false ∧ uzero prog 112 = some [.nilf] := by and_intros <;> kernel_rfl
@[simp] theorem tb113 : TY prog 113 1 8 false none none none false false ∧ uzero prog 113 = some [.nilf] := by and_intros <;> kernel_rfl
@[simp] theorem tb114 : TY prog 114 1 8 false none none none false false ∧ uzero prog 114 = some [.nilf] := by and_intros <;> kernel_rfl
@[simp] theorem tb115 : TY prog 115 1 8 false none none none false false ∧ uzero prog 115 = some [.nilf] := by and_intros <;> kernel_rfl
@[simp] theorem tb116 : TY prog 116 1 0 false none none none false false := by and_intros <;> kernel_rfl
@[simp] theorem tb117 : TY prog 117 1 8 false none none none false false ∧ uzero prog 117 = some [.nilf] := by and_intros <;> kernel_rfl
@[simp] theorem tb118 : TY prog 118 1 8 false none none none false false ∧ uzero prog 118 = some [.nilf] := by and_intros <;> kernel_rfl
@[simp] theorem tb119 : TY prog 119 1 8 false none none none false false ∧ uzero prog 119 = some [.nilf] := by and_intros <;> kernel_rfl
@[simp] theorem tb120 : TY prog 120 1 8 false none none none false false ∧ uzero prog 120 = some [.nilf] := by and_intros <;> kernel_rfl
@[simp] theorem tb121 : TY prog 121 1 8 false none none none false false ∧ uzero prog 121 = some [.nilf] := by and_intros <;> kernel_rfl
@[simp] theorem tb122 : TY prog 122 1 8 false none none none false false ∧ uzero prog 122 = some [.nilf] := by and_intros <;> kernel_rfl
@[simp] theorem tb123 : TY prog 123 3 40 true none none none false false ∧ TF prog 123 0 3 0 1 ∧ TF prog 123 1 9 1 1 ∧ TF prog 123 2 9 2 1 ∧ (uplaces prog 123).isSome = true ∧ uzero prog 123 = some [.int .i64 0, .str [], .str []] := by and_intros <;> kernel_rfl
@[simp] theorem tb124 : TY prog 124 3 40 true none none none false false ∧ TF prog 124 0 3 0 1 ∧ TF prog 124 1 9 1 1 ∧ TF prog 124 2 9 2 1 ∧ (uplaces prog 124).isSome = true ∧ uzero prog 124 = some [.int .i64 0, .str [], .str []] := by and_intros <;> kernel_rfl
@[simp] theorem tb125 : TY prog 125 1 0 false none none none false false := by and_intros <;> kernel_rfl
@[simp] theorem tb126 : TY prog 126 1 8 false none none none false false ∧ uzero prog 126 = some [.nilf] := by and_intros <;> kernel_rfl
@[simp] theorem tb127 : TY prog 127 1 24 false (some 124) none none false false ∧ uzero prog 127 = some [.nils] := by and_intros <;> kernel_rfl
@[simp] theorem tb128 : TY prog 128 2 32 true none none none false false ∧ TF prog 128 0 127 0 1 ∧ TF prog 128 1 3 1 1 ∧ (uplaces prog 128).isSome = true ∧ uzero prog 128 = some [.nils, .int .i64 0] := by and_intros <;> kernel_rfl
@[simp] theorem tb129 : TY prog 129 2 32 true none none none false false ∧ TF prog 129 0 127 0 1 ∧ TF prog 129 1 3 1 1 ∧ (uplaces prog 129).isSome = true ∧ uzero prog 129 = some [.nils, .int .i64 0] := by and_intros <;> kernel_rfl
@[simp] theorem tb130 : TY prog 130 1 0 false none none none false false := by and_intros <;> kernel_rfl
@[simp] theorem tb131 : TY prog 131 1 8 false none none none false false ∧ uzero prog 131 = some [.nilf] := by and_intros <;> kernel_rfl
@[simp] theorem tb132 : TY prog 132 1 8 false none none none false false ∧ uzero prog 132 = some [.nilf] := by and_intros <;> kernel_rfl
@[simp] theorem tb133 : TY prog 133 1 8 false none none none false false ∧ uzero prog 133 = some [.nilf] := by and_intros <;> kernel_rfl
@[simp] theorem tb134 : TY prog 134 1 8 false none none none false false ∧ uzero prog 134 = some [.nilf] := by and_intros <;> kernel_rfl
@[simp] theorem tb135 : TY prog 135 1 8 false none none none false false ∧ uptr prog 135 = true ∧ uzero prog 135 = some [.nilp] := by and_intros <;> kernel_rfl
@[simp] theorem tb136 : TY prog 136 1 8 false none none none false false ∧ uzero prog 136 = some [.nilf] := by and_intros <;> kernel_rfl
@[simp] theorem tb137 : TY prog 137 1 8 false none none none false false ∧ uzero prog 137 = some [.nilf] := by and_intros <;> kernel_rfl
@[simp] theorem tb138 : TY prog 138 1 0 false none none none false false := by and_intros <;> kernel_rfl
@[simp] theorem tb139 : TY prog 139 1 8 false none none none false false ∧ uzero prog 139 = some [.nilf] := by and_intros <;> kernel_rfl
@[simp] theorem tb140 : TY prog 140 1 8 false none none none false false ∧ uzero prog 140 = some [.nilf] := by and_intros <;> kernel_rfl
@[simp] theorem tb141 : TY prog 141 1 8 false none none none false false ∧ uzero prog 141 = some [.nilf] := by and_intros <;> kernel_rfl
@[simp] theorem tb142 : TY prog 142 1 8 false none none none false false ∧ uzero prog 142 = some [.nilf] := by and_intros <;> kernel_rfl
@[simp] theorem tb143 : TY prog 143 1 8 false none none none false false ∧ uzero prog 143 = some [.nilf] := by and_intros <;> kernel_rfl
@[simp] theorem tb144 : TY prog 144 3 48 true none none none false false ∧ TF prog 144 0 3 0 1 ∧ TF prog 144 1 9 1 1 ∧ TF prog 144 2 28 2 1 ∧ (uplaces prog 144).isSome = true ∧ uzero prog 144 = some [.int .i64 0, .str [], .nils] := by and_intros <;> kernel_rfl
@[simp] theorem tb145 : TY prog 145 3 48 true none none none false false ∧ TF prog 145 0 3 0 1 ∧ TF prog 145 1 9 1 1 ∧ TF prog 145 2 28 2 1 ∧ (uplaces prog 145).isSome = true ∧ uzero prog 145 = some [.int .i64 0, .str [], .nils] := by and_intros <;> kernel_rfl
@[simp] theorem tb146 : TY prog 146 1 8 false none none none false false ∧ uzero prog 146 = some [.nilf] := by and_intros <;> kernel_rfl
@[simp] theorem tb147 : TY prog 147 1 8 false none none none false false ∧ uzero prog 147 = some [.nilf] := by and_intros <;> kernel_rfl
@[simp] theorem tb148 : TY prog 148 1 8 false none none none false false ∧ uzero prog 148 = some [.nilf] := by and_intros <;> kernel_rfl
@[simp] theorem tb149 : TY prog 149 1 8 false none none none false false ∧ uzero prog 149 = some [.nilf] := by and_intros <;> kernel_rfl
@[simp] theorem tb150 : TY prog 150 1 8 false none none none false false ∧ uzero prog 150 = some [.nilf] := by and_intros <;> kernel_rfl
@[simp] theorem tb151 : TY prog 151 3 3 true none (some (3, 4)) none false false ∧ (uplaces prog 151).isSome = true ∧ uzero prog 151 = some [.bool false, .bool false, .bool false] := by and_intros <;> kernel_rfl
@[simp] theorem tb152 : TY prog 152 1 8 false none none none false false ∧ uzero prog 152 = some [.nilf] := by and_intros <;> kernel_rfl
@[simp] theorem tb153 : TY prog 153 1 8 false none none none false false ∧ uzero prog 153 = some [.nilf] := by and_intros <;> kernel_rfl
@[simp] theorem tb154 : TY prog 154 1 8 false none none none false false ∧ uzero prog 154 = some [.nilf] := by and_intros <;> kernel_rfl
@[simp] theorem tb155 : TY prog 155 1 8 false none none none false false ∧ uzero prog 155 = some [.nilf] := by and_intros <;> kernel_rfl
@[simp] theorem tb156 : TY prog 156 1 8 false none none none false false ∧ uzero prog 156 = some [.nilf] := by and_intros <;> kernel_rfl
@[simp] theorem tb157 : TY prog 157 1 8 false none none none false false ∧ uzero prog 157 = some [.nilf] := by and_intros <;> kernel_rfl
@[simp] theorem tb158 : TY prog 158 1 8 false none none none false false ∧ uzero prog 158 = some [.nilf] := by and_intros <;> kernel_rfl
@[simp] theorem tb159 : TY prog 159 1 8 false none none none false false ∧ uzero prog 159 = some [.nilf] := by and_intros <;> kernel_rfl
@[simp] theorem tb160 : TY prog 160 6 48 true none none none false false ∧ TF prog 160 0 3 0 1 ∧ TF prog 160 1 3 1 1 ∧ TF prog 160 2 3 2 1 ∧ TF prog 160 3 3 3 1 ∧ TF prog 160 4 3 4 1 ∧ TF prog 160 5 3 5 1 ∧ (uplaces prog 160).isSome = true ∧ uzero prog 160 = some [.int .i64 0, .int .i64 0, .int .i64 0, .int .i64 0, .int .i64 0, .int .i64 0] := by and_intros <;> kernel_rfl
@[simp] theorem tb161 : TY prog 161 6 48 true none none none false false ∧ TF prog 161 0 3 0 1 ∧ TF prog 161 1 3 1 1 ∧ TF prog 161 2 3 2 1 ∧ TF prog 161 3 3 3 1 ∧ TF prog 161 4 3 4 1 ∧ TF prog 161 5 3 5 1 ∧ (uplaces prog 161).isSome = true ∧ uzero prog 161 = some [.int .i64 0, .int .i64 0, .int .i64 0, .int .i64 0, .int .i64 0, .int .i64 0] := by and_intros <;> kernel_rfl
@[simp] theorem tb162 : TY prog 162 1 0 false none none none false false := by and_intros <;> kernel_rfl
@[simp] theorem tb163 : TY prog 163 1 8 false none none none false false ∧ uzero prog 163 = some [.nilf] := by and_intros <;> kernel_rfl
@[simp] theorem tb164 : TY prog 164 3 40 true none none none false false ∧ TF prog 164 0 9 0 1 ∧ TF prog 164 1 4 1 1 ∧ TF prog 164 2 9 2 1 ∧ (uplaces prog 164).isSome = true ∧ uzero prog 164 = some [.str [], .bool false, .str []] := by and_intros <;> kernel_rfl
@[simp] theorem tb165 : TY prog 165 3 40 true none none none false false ∧ TF prog 165 0 9 0 1 ∧ TF prog 165 1 4 1 1 ∧ TF prog 165 2 9 2 1 ∧ (uplaces prog 165).isSome = true ∧ uzero prog 165 = some [.str [], .bool false, .str []] := by and_intros <;> kernel_rfl
@[simp] theorem tb166 : TY prog 166 1 8 false none none none false false ∧ uzero prog 166 = some [.nilf] := by and_intros <;> kernel_rfl
@[simp] theorem tb167 : TY prog 167 1 8 false none none none false false ∧ uzero prog 167 = some [.nilf] := by and_intros <;> kernel_rfl
@[simp] theorem tb168 : TY prog 168 1 8 false none none none false false ∧ uzero prog 168 = some [.nilf] := by and_intros <;> kernel_rfl
@[simp] theorem tb169 : TY prog 169 1 8 false none none none false false ∧ uzero prog 169 = some [.nilf] := by and_intros <;> kernel_rfl
@[simp] theorem tb170 : TY prog 170 1 8 false none none none false false ∧ uzero prog 170 = some [.nilf] := by and_intros <;> kernel_rfl
@[simp] theorem tb171 : TY prog 171 1 8 false none none none false false ∧ uzero prog 171 = some [.nilf] := by and_intros <;> kernel_rfl
@[simp] theorem tb172 : TY prog 172 1 8 false none none none false false ∧ uzero prog 172 = some [.nilf] := by and_intros <;> kernel_rfl
@[simp] theorem tb173 : TY prog 173 1 0 false none none none false false := by and_intros <;> kernel_rfl
@[simp] theorem tb174 : TY prog 174 1 8 false none none none false false ∧ uzero prog 174 = some [.nilf] := by and_intros <;> kernel_rfl
@[simp] theorem tb175 : TY prog 175 1 8 false none none none false false ∧ uzero prog 175 = some [.nilf] := by and_intros <;> kernel_rfl
@[simp] theorem tb176 : TY prog 176 1 8 false none none none false false ∧ uzero prog 176 = some [.nilf] := by and_intros <;> kernel_rfl
@[simp] theorem tb177 : TY prog 177 1 8 false none none (some .u64) false false ∧ uzero prog 177 = some [.int .u64 0] := by and_intros <;> kernel_rfl
@[simp] theorem tb178 : TY prog 178 1 8 false none none none false false ∧ uzero prog 178 = some [.nilf] := by and_intros <;> kernel_rfl
@[simp] theorem tb179 : TY prog 179 1 8 false none none none false false ∧ uzero prog 179 = some [.nilf] := by and_intros <;> kernel_rfl
@[simp] theorem tb180 : TY prog 180 1 8 false none none none false false ∧ uzero prog 180 = some [.nilf] := by and_intros <;> kernel_rfl
@[simp] theorem tb181 : TY prog 181 1 0 false none none none false false := by and_intros <;> kernel_rfl
@[simp] theorem tb182 : TY prog 182 1 8 false none none none false false ∧ uzero prog 182 = some [.nilf] := by and_intros <;> kernel_rfl
@[simp] theorem tb183 : TY prog 183 1 0 false none none none false false := by and_intros <;> kernel_rfl
@[simp] theorem tb184 : TY prog 184 1 8 false none none none false false ∧ uzero prog 184 = some [.nilf] := by and_intros <;> kernel_rfl
@[simp] theorem tb185 : TY prog 185 1 0 false none none none false false := by and_intros <;> kernel_rfl
@[simp] theorem tb186 : TY prog 186 1 8 false none none none false false ∧ uzero prog 186 = some [.nilf] := by and_intros <;> kernel_rfl
@[simp] theorem tb187 : TY prog 187 1 8 false none none none false false ∧ uzero prog 187 = some [.nilf] := by and_intros <;> kernel_rfl
@[simp] theorem tb188 : TY prog 188 1 8 false none none none false false ∧ uzero prog 188 = some [.nilf] := by and_intros <;> kernel_rfl
@[simp] theorem tb189 : TY prog 189 1 8 false none none none false false ∧ uptr prog 189 = true ∧ uzero prog 189 = some [.nilp] := by and_intros <;> kernel_rfl
@[simp] theorem tb190 : TY prog 190 1 0 false none none none false false := by and_intros <;> kernel_rfl
@[simp] theorem tb191 : TY prog 191 1 8 false none none none false false ∧ uzero prog 191 = some [.nilf] := by and_intros <;> kernel_rfl
@[simp] theorem tb192 : TY prog 192 1 8 false none none none false false ∧ uzero prog 192 = some [.nilf] := by and_intros <;> kernel_rfl
@[simp] theorem tb193 : TY prog 193 1 0 false none none none false false := by and_intros <;> kernel_rfl
@[simp] theorem tb194 : TY prog 194 1 8 false none none none false false ∧ uzero prog 194 = some [.nilf] := by and_intros <;> kernel_rfl
@[simp] theorem tb195 : TY prog 195 1 8 false none none none false false ∧ uzero prog 195 = some [.nilf] := by and_intros <;> kernel_rfl
@[simp] theorem tb196 : TY prog 196 1 8 false none none none false false ∧ uzero prog 196 = some [.nilf] := by and_intros <;> kernel_rfl
@[simp] theorem tb197 : TY prog 197 1 8 false none none none false false ∧ uzero prog 197 = some [.nilf] := by and_intros <;> kernel_rfl
@[simp] theorem tb198 : TY prog 198 1 8 false none none none false false ∧ uzero prog 198 = some [.nilf] := by and_intros <;> kernel_rfl
@[simp] theorem tb199 : TY prog 199 1 8 false none none none false false ∧ uzero prog 199 = some [.nilf] := by and_intros <;> kernel_rfl
@[simp] theorem tb200 : TY prog 200 1 8 false none none none false false ∧ uzero prog 200 = some [.nilf] := by and_intros <;> kernel_rfl
@[simp] theorem tb201 : TY prog 201 1 8 false none none (some .i64) false false ∧ uzero prog 201 = some [.int .i64 0] := by and_intros <;> kernel_rfl
@[simp] theorem tb202 : TY prog 202 1 8 false none none none false false ∧ uzero prog 202 = some [.nilf] := by and_intros <;> kernel_rfl
@[simp] theorem tb203 : TY prog 203 1 8 false none none none false false ∧ uzero prog 203 = some [.nilf] := by and_intros <;> kernel_rfl
@[simp] theorem tb204 : TY prog 204 1 8 false none none none false false ∧ uzero prog 204 = some [.nilf] := by and_intros <;> kernel_rfl
@[simp] theorem tb205 : TY prog 205 1 8 false none none none false false ∧ uzero prog 205 = some [.nilf] := by and_intros <;> kernel_rfl
@[simp] theorem tb206 : TY prog 206 1 8 false none none none false false ∧ uzero prog 206 = some [.nilf] := by and_intros <;> kernel_rfl
@[simp] theorem tb207 : TY prog 207 1 8 false none none none false false ∧ uzero prog 207 = some [.nilf] := by and_intros <;> kernel_rfl
@[simp] theorem tb208 : TY prog 208 1 8 false none none none false false ∧ uzero prog 208 = some [.nilf] := by and_intros <;> kernel_rfl
@[simp] theorem tb209 : TY prog 209 1 8 false none none none false false ∧ uzero prog 209 = some [.nilf] := by and_intros <;> kernel_rfl
@[simp] theorem tb210 : TY prog 210 1 8 false none none none false false ∧ uzero prog 210 = some [.nilf] := by and_intros <;> kernel_rfl
@[simp] theorem tb211 : TY prog 211 1 8 false none none none false false ∧ uzero prog 211 = some [.nilf] := by and_intros <;> kernel_rfl
@[simp] theorem tb212 : TY prog 212 1 8 false none none (some .u64) false false ∧ uzero prog 212 = some [.int .u64 0] := by and_intros <;> kernel_rfl
@[simp] theorem tb213 : TY prog 213 1 8 false none none none false false ∧ uzero prog 213 = some [.nilf] := by and_intros <;> kernel_rfl
@[simp] theorem tb214 : TY prog 214 1 4 false none none (some .u32) false false ∧ uzero prog 214 = some [.int .u32 0] := by and_intros <;> kernel_rfl
@[simp] theorem tb215 : TY prog 215 1 24 false (some 214) none none false false ∧ uzero prog 215 = some [.nils] := by and_intros <;> kernel_rfl
@[simp] theorem tb216 : TY prog 216 1 8 false none none none false false ∧ uzero prog 216 = some [.nilf] := by and_intros <;> kernel_rfl
@[simp] theorem tb217 : TY prog 217 1 0 false none none none false false := by and_intros <;> kernel_rfl
@[simp] theorem tb218 : TY prog 218 1 8 false none none none false false ∧ uzero prog 218 = some [.nilf] := by and_intros <;> kernel_rfl
@[simp] theorem tb219 : TY prog 219 1 0 false none none none false false := by and_intros <;> kernel_rfl
@[simp] theorem tb220 : TY prog 220 1 8 false none none none false false ∧ uzero prog 220 = some [.nilf] := by and_intros <;> kernel_rfl
@[simp] theorem tb221 : TY prog 221 1 8 false none none none false false ∧ uzero prog 221 = some [.nilf] := by and_intros <;> kernel_rfl
@[simp] theorem tb222 : TY prog 222 1 8 false none none none false false ∧ uzero prog 222 = some [.nilf] := by and_intros <;> kernel_rfl
@[simp] theorem tb223 : TY prog 223 1 8 false none none none false false ∧ uzero prog 223 = some [.nilf] := by and_intros <;> kernel_rfl
@[simp] theorem tb224 : TY prog 224 1 8 false none none none false false ∧ uzero prog 224 = some [.nilf] := by and_intros <;> kernel_rfl
@[simp] theorem tb225 : TY prog 225 1 8 false none none none false false ∧ uptr prog 225 = true ∧ uzero prog 225 = some [.nilp] := by and_intros <;> kernel_rfl
@[simp] theorem tb226 : TY prog 226 1 0 false none none none false false := by and_intros <;> kernel_rfl
@[simp] theorem tb227 : TY prog 227 1 8 false none none none false false ∧ uzero prog 227 = some [.nilf] := by and_intros <;> kernel_rfl
@[simp] theorem tb228 : TY prog 228 1 8 false none none none false false ∧ uzero prog 228 = some [.nilf] := by and_intros <;> kernel_rfl
@[simp] theorem tb229 : TY prog 229 1 0 false none none none false false := by and_intros <;> kernel_rfl
@[simp] theorem tb230 : TY prog 230 1 8 false none none none false false ∧ uzero prog 230 = some [.nilf] := by and_intros <;> kernel_rfl
@[simp] theorem tb231 : TY prog 231 1 0 false none none none false false := by and_intros <;> kernel_rfl
@[simp] theorem tb232 : TY prog 232 1 8 false none none none false false ∧ uzero prog 232 = some [.nilf] := by and_intros <;> kernel_rfl
@[simp] theorem tb233 : TY prog 233 1 8 false none none none false false ∧ uzero prog 233 = some [.nilf] := by and_intros <;> kernel_rfl
@[simp] theorem tb234 : TY prog 234 1 8 false none none none false false ∧ uzero prog 234 = some [.nilf] := by and_intros <;> kernel_rfl
@[simp] theorem tb235 : TY prog 235 1 0 false none none none false false := by and_intros <;> kernel_rfl
@[simp] theorem tb236 : TY prog 236 1 8 false none none none false false ∧ uzero prog 236 = some [.nilf] := by and_intros <;> kernel_rfl
@[simp] theorem tb237 : TY prog 237 1 8 false none none none false false ∧ uzero prog 237 = some [.nilf] := by and_intros <;> kernel_rfl
@[simp] theorem tb238 : TY prog 238 1 8 false none none none false false ∧ uzero prog 238 = some [.nilf] := by and_intros <;> kernel_rfl
@[simp] theorem tb239 : TY prog 239 1 8 false none none none false false ∧ uzero prog 239 = some [.nilf] := by and_intros <;> kernel_rfl
@[simp] theorem tb240 : TY prog 240 1 8 false none none none false false ∧ uzero prog 240 = some [.nilf] := by and_intros <;> kernel_rfl
@[simp] theorem tb241 : TY prog 241 1 0 false none none none false false := by and_intros <;> kernel_rfl
@[simp] theorem tb242 : TY prog 242 1 8 false none none none false false ∧ uzero prog 242 = some [.nilf] := by and_intros <;> kernel_rfl
@[simp] theorem tb243 : TY prog 243 1 8 false none none none false false ∧ uzero prog 243 = some [.nilf] := by and_intros <;> kernel_rfl
@[simp] theorem tb244 : TY prog 244 1 8 false none none none false false ∧ uzero prog 244 = some [.nilf] := by and_intros <;> kernel_rfl
@[simp] theorem tb245 : TY prog 245 1 8 false none none none false false ∧ uzero prog 245 = some [.nilf] := by and_intros <;> kernel_rfl
@[simp] theorem tb246 : TY prog 246 1 0 false none none none false false := by and_intros <;> kernel_rfl
@[simp] theorem tb247 : TY prog 247 1 8 false none none none false false ∧ uzero prog 247 = some [.nilf] := by and_intros <;> kernel_rfl
@[simp] theorem tb248 : TY prog 248 64 256 true none (some (64, 214)) none false false ∧ (uplaces prog 248).isSome = true ∧ uzero prog 248 = some (List.replicate 64 (.int .u32 0 : V)) := by and_intros <;> kernel_rfl
@[simp] theorem tb249 : TY prog 249 1 8 false none none none false false ∧ uzero prog 249 = some [.nilf] := by and_intros <;> kernel_rfl
@[simp] theorem tb250 : TY prog 250 1 0 false none none none false false := by and_intros <;> kernel_rfl
@[simp] theorem tb251 : TY prog 251 1 8 false none none none false false ∧ uzero prog 251 = some [.nilf] := by and_intros <;> kernel_rfl
@[simp] theorem tb252 : TY prog 252 1 8 false none none none false false ∧ uzero prog 252 = some [.nilf] := by and_intros <;> kernel_rfl
@[simp] theorem tb253 : TY prog 253 1 8 false none none none false false ∧ uzero prog 253 = some [.nilf] := by and_intros <;> kernel_rfl
@[simp] theorem tb254 : TY prog 254 1 0 false none none none false false := by and_intros <;> kernel_rfl
@[simp] theorem tb255 : TY prog 255 1 8 false none none none false false ∧ uzero prog 255 = some [.nilf] := by and_intros <;> kernel_rfl
@[simp] theorem tb256 : TY prog 256 1 0 false none none none false false := by and_intros <;> kernel_rfl
@[simp] theorem tb257 : TY prog 257 1 8 false none none none false false ∧ uzero prog 257 = some [.nilf] := by and_intros <;> kernel_rfl
@[simp] theorem tb258 : TY prog 258 1 8 false none none none false false ∧ uzero prog 258 = some [.nilf] := by and_intros <;> kernel_rfl
@[simp] theorem tb259 : TY prog 259 1 8 false none none none false false ∧ uzero prog 259 = some [.nilf] := by and_intros <;> kernel_rfl
@[simp] theorem tb260 : TY prog 260 1 8 false none none none false false ∧ uzero prog 260 = some [.nilf] := by and_intros <;> kernel_rfl
@[simp] theorem tb261 : TY prog 261 1 8 false none none none false false ∧ uzero prog 261 = some [.nilf] := by and_intros <;> kernel_rfl
@[simp] theorem tb262 : TY prog 262 1 8 false none none none false false ∧ uzero prog 262 = some [.nilf] := by and_intros <;> kernel_rfl
@[simp] theorem tb263 : TY prog 263 1 8 false none none none false false ∧ uzero prog 263 = some [.nilf] := by and_intros <;> kernel_rfl
@[simp] theorem tb264 : TY prog 264 1 8 false none none none false false ∧ uzero prog 264 = some [.nilf] := by and_intros <;> kernel_rfl
@[simp] theorem tb265 : TY prog 265 1 8 false none none none false false ∧ uzero prog 265 = some [.nilf] := by and_intros <;> kernel_rfl
@[simp] theorem tb266 : TY prog 266 1 8 false none none none false false ∧ uzero prog 266 = some [.nilf] := by and_intros <;> kernel_rfl
@[simp] theorem tb267 : TY prog 267 1 8 false none none none false false ∧ uzero prog 267 = some [.nilf] := by and_intros <;> kernel_rfl
@[simp] theorem tb268 : TY prog 268 1 8 false none none none false false ∧ uzero prog 268 = some [.nilf] := by and_intros <;> kernel_rfl
@[simp] theorem tb269 : TY prog 269 1 8 false none none none false false ∧ uzero prog 269 = some [.nilf] := by and_intros <;> kernel_rfl
@[simp] theorem tb270 : TY prog 270 1 8 false none none none false false ∧ uzero prog 270 = some [.nilf] := by and_intros <;> kernel_rfl
@[simp] theorem tb271 : TY prog 271 1 8 false none none none false false ∧ uzero prog 271 = some [.nilf] := by and_intros <;> kernel_rfl
@[simp] theorem tb272 : TY prog 272 1 8 false none none none false false ∧ uzero prog 272 = some [.nilf] := by and_intros <;> kernel_rfl
@[simp] theorem tb273 : TY prog 273 1 8 false none none none false false ∧ uzero prog 273 = some [.nilf] := by and_intros <;> kernel_rfl
@[simp] theorem tb274 : TY prog 274 1 8 false none none none false false ∧ uzero prog 274 = some [.nilf] := by and_intros <;> kernel_rfl
@[simp] theorem tb275 : TY prog 275 1 8 false none none none false false ∧ uzero prog 275 = some [.nilf] := by and_intros <;> kernel_rfl
@[simp] theorem tb276 : TY prog 276 1 8 false none none none false false ∧ uzero prog 276 = some [.nilf] := by and_intros <;> kernel_rfl
@[simp] theorem tb277 : TY prog 277 1 8 false none none none false false ∧ uzero prog 277 = some [.nilf] := by and_intros <;> kernel_rfl
@[simp] theorem tb278 : TY prog 278 1 0 false none none none false false := by and_intros <;> kernel_rfl
@[simp] theorem tb279 : TY prog 279 1 8 false none none none false false ∧ uzero prog 279 = some [.nilf] := by and_intros <;> kernel_rfl
@[simp] theorem tb280 : TY prog 280 1 8 false none none none false false ∧ uptr prog 280 = true ∧ uzero prog 280 = some [.nilp] := by and_intros <;> kernel_rfl
@[simp] theorem tb281 : TY prog 281 1 8 false none none none false false ∧ uzero prog 281 = some [.nilf] := by and_intros <;> kernel_rfl
@[simp] theorem tb282 : TY prog 282 1 8 false none none none false false ∧ uzero prog 282 = some [.nilf] := by and_intros <;> kernel_rfl
@[simp] theorem tb283 : TY prog 283 1 8 false none none none false false ∧ uzero prog 283 = some [.nilf] := by and_intros <;> kernel_rfl
@[simp] theorem tb284 : TY prog 284 8 32 true none (some (8, 214)) none false false ∧ (uplaces prog 284).isSome = true ∧ uzero prog 284 = some [.int .u32 0, .int .u32 0, .int .u32 0, .int .u32 0, .int .u32 0, .int .u32 0, .int .u32 0, .int .u32 0] := by and_intros <;> kernel_rfl
@[simp] theorem tb285 : TY prog 285 8 32 true none (some (8, 214)) none false false ∧ (uplaces prog 285).isSome = true ∧ uzero prog 285 = some [.int .u32 0, .int .u32 0, .int .u32 0, .int .u32 0, .int .u32 0, .int .u32 0, .int .u32 0, .int .u32 0] := by and_intros <;> kernel_rfl
@[simp] theorem tb286 : TY prog 286 10 64 true none none none false false ∧ TF prog 286 0 285 0 8 ∧ TF prog 286 1 110 8 1 ∧ TF prog 286 2 3 9 1 ∧ (uplaces prog 286).isSome = true ∧ uzero prog 286 = some [.int .u32 0, .int .u32 0, .int .u32 0, .int .u32 0, .int .u32 0, .int .u32 0, .int .u32 0, .int .u32 0, .nils, .int .i64 0] := by and_intros <;> kernel_rfl
@[simp] theorem tb287 : TY prog 287 10 64 true none none none false false ∧ TF prog 287 0 285 0 8 ∧ TF prog 287 1 110 8 1 ∧ TF prog 287 2 3 9 1 ∧ (uplaces prog 287).isSome = true ∧ uzero prog 287 = some [.int .u32 0, .int .u32 0, .int .u32 0, .int .u32 0, .int .u32 0, .int .u32 0, .int .u32 0, .int .u32 0, .nils, .int .i64 0] := by and_intros <;> kernel_rfl
@[simp] theorem tb288 : TY prog 288 1 8 false none none none false false ∧ uzero prog 288 = some [.nilf] := by and_intros <;> kernel_rfl
@[simp] theorem tb289 : TY prog 289 1 8 false none none none false false ∧ uzero prog 289 = some [.nilf] := by and_intros <;> kernel_rfl
@[simp] theorem tb290 : TY prog 290 1 0 false none none none false false := by and_intros <;> kernel_rfl
@[simp] theorem tb291 : TY prog 291 1 8 false none none none false false ∧ uzero prog 291 = some [.nilf] := by and_intros <;> kernel_rfl
@[simp] theorem tb292 : TY prog 292 1 0 false none none none false false := by and_intros <;> kernel_rfl
@[simp] theorem tb293 : TY prog 293 1 8 false none none none false false ∧ uzero prog 293 = some [.nilf] := by and_intros <;> kernel_rfl
@[simp] theorem tb294 : TY prog 294 1 8 false none none none false false ∧ uzero prog 294 = some [.nilf] := by and_intros <;> kernel_rfl
@[simp] theorem tb295 : TY prog 295 1 8 false none none none false false ∧ uzero prog 295 = some [.nilf] := by and_intros <;> kernel_rfl
@[simp] theorem tb296 : TY prog 296 256 256 true none (some (256, 5)) none false false ∧ (uplaces prog 296).isSome = true ∧ uzero prog 296 = some (List.replicate 256 (.int .u8 0 : V)) := by and_intros <;> kernel_rfl
@[simp] theorem tb297 : TY prog 297 2 2 true none none none false false ∧ TF prog 297 0 5 0 1 ∧ TF prog 297 1 5 1 1 ∧ (uplaces prog 297).isSome = true ∧ uzero prog 297 = some [.int .u8 0, .int .u8 0] := by and_intros <;> kernel_rfl
@[simp] theorem tb298 : TY prog 298 2 2 true none none none false false ∧ TF prog 298 0 5 0 1 ∧ TF prog 298 1 5 1 1 ∧ (uplaces prog 298).isSome = true ∧ uzero prog 298 = some [.int .u8 0, .int .u8 0] := by and_intros <;> kernel_rfl
@[simp] theorem tb299 : TY prog 299 32 32 true none (some (16, 298)) none false false ∧ (uplaces prog 299).isSome = true ∧ uzero prog 299 = some (List.replicate 32 (.int .u8 0 : V)) := by and_intros <;> kernel_rfl
@[simp] theorem tb300 : TY prog 300 4 40 true none none none false false ∧ TF prog 300 0 17 0 1 ∧ TF prog 300 1 17 1 1 ∧ TF prog 300 2 17 2 1 ∧ TF prog 300 3 9 3 1 ∧ (uplaces prog 300).isSome = true ∧ uzero prog 300 = some [.nilp, .nilp, .nilp, .str []] := by and_intros <;> kernel_rfl
@[simp] theorem tb301 : TY prog 301 4 40 true none none none false false ∧ TF prog 301 0 17 0 1 ∧ TF prog 301 1 17 1 1 ∧ TF prog 301 2 17 2 1 ∧ TF prog 301 3 9 3 1 ∧ (uplaces prog 301).isSome = true ∧ uzero prog 301 = some [.nilp, .nilp, .nilp, .str []] := by and_intros <;> kernel_rfl
@[simp] theorem tb302 : TY prog 302 0 0 true none (some (0, 16)) none false false ∧ (uplaces prog 302).isSome = true ∧ uzero prog 302 = some [] := by and_intros <;> kernel_rfl
@[simp] theorem tb303 : TY prog 303 0 0 true none none none false false ∧ TF prog 303 0 302 0 0 ∧ (uplaces prog 303).isSome = true ∧ uzero prog 303 = some [] := by and_intros <;> kernel_rfl
@[simp] theorem tb304 : TY prog 304 0 0 true none none none false false ∧ TF prog 304 0 302 0 0 ∧ (uplaces prog 304).isSome = true ∧ uzero prog 304 = some [] := by and_intros <;> kernel_rfl
@[simp] theorem tb305 : TY prog 305 1 8 false none none none false false ∧ uzero prog 305 = some [.nilf] := by and_intros <;> kernel_rfl
@[simp] theorem tb306 : TY prog 306 1 1 false none none (some .u8) false false ∧ uzero prog 306 = some [.int .u8 0] := by and_intros <;> kernel_rfl
@[simp] theorem tb307 : TY prog 307 1 1 false none none (some .u8) false false ∧ uzero prog 307 = some [.int .u8 0] := by and_intros <;> kernel_rfl
@[simp] theorem tb308 : TY prog 308 1 8 false none none none false false ∧ uzero prog 308 = some [.nilf] := by and_intros <;> kernel_rfl
@[simp] theorem tb309 : TY prog 309 1 8 false none none none false false ∧ uptr prog 309 = true ∧ uzero prog 309 = some [.nilp] := by and_intros <;> kernel_rfl
@[simp] theorem tb310 : TY prog 310 1 4 false none none (some .i32) false false ∧ uzero prog 310 = some [.int .i32 0] := by and_intros <;> kernel_rfl
@[simp] theorem tb311 : TY prog 311 1 4 false none none (some .i32) false false ∧ uzero prog 311 = some [.int .i32 0] := by and_intros <;> kernel_rfl
@[simp] theorem tb312 : TY prog 312 11 48 true none none none false false ∧ TF prog 312 0 12 0 1 ∧ TF prog 312 1 12 1 1 ∧ TF prog 312 2 214 2 1 ∧ TF prog 312 3 306 3 1 ∧ TF prog 312 4 5 4 1 ∧ TF prog 312 5 5 5 1 ∧ TF prog 312 6 307 6 1 ∧ TF prog 312 7 308 7 1 ∧ TF prog 312 8 309 8 1 ∧ TF prog 312 9 310 9 1 ∧ TF prog 312 10 311 10 1 ∧ (uplaces prog 312).isSome = true ∧ uzero prog 312 = some [.int .u64 0, .int .u64 0, .int .u32 0, .int .u8 0, .int .u8 0, .int .u8 0, .int .u8 0, .nilf, .nilp, .int .i32 0, .int .i32 0] := by and_intros <;> kernel_rfl
@[simp] theorem tb313 : TY prog 313 11 48 true none none none false false ∧ TF prog 313 0 12 0 1 ∧ TF prog 313 1 12 1 1 ∧ TF prog 313 2 214 2 1 ∧ TF prog 313 3 306 3 1 ∧ TF prog 313 4 5 4 1 ∧ TF prog 313 5 5 5 1 ∧ TF prog 313 6 307 6 1 ∧ TF prog 313 7 308 7 1 ∧ TF prog 313 8 309 8 1 ∧ TF prog 313 9 310 9 1 ∧ TF prog 313 10 311 10 1 ∧ (uplaces prog 313).isSome = true ∧ uzero prog 313 = some [.int .u64 0, .int .u64 0, .int .u32 0, .int .u8 0, .int .u8 0, .int .u8 0, .int .u8 0, .nilf, .nilp, .int .i32 0, .int .i32 0] := by and_intros <;> kernel_rfl
@[simp] theorem tb314 : TY prog 314 2 32 true none none none false false ∧ TF prog 314 0 9 0 1 ∧ TF prog 314 1 9 1 1 ∧ (uplaces prog 314).isSome = true ∧ uzero prog 314 = some [.str [], .str []] := by and_intros <;> kernel_rfl
@[simp] theorem tb315 : TY prog 315 2 32 true none none none false false ∧ TF prog 315 0 9 0 1 ∧ TF prog 315 1 9 1 1 ∧ (uplaces prog 315).isSome = true ∧ uzero prog 315 = some [.str [], .str []] := by and_intros <;> kernel_rfl
@[simp] theorem tb316 : TY prog 316 1 8 false none none none false false ∧ uzero prog 316 = some [.nilp] := by and_intros <;> kernel_rfl
@[simp] theorem uplace151 (i : Nat) : uplace prog 151 i = some (i * 1, 1) := by kernel_rfl
@[simp] theorem uplace248 (i : Nat) : uplace prog 248 i = some (i * 1, 1) := by kernel_rfl
@[simp] theorem uplace284 (i : Nat) : uplace prog 284 i = some (i * 1, 1) := by kernel_rfl
@[simp] theorem uplace285 (i : Nat) : uplace prog 285 i = some (i * 1, 1) := by kernel_rfl
@[simp] theorem uplace296 (i : Nat) : uplace prog 296 i = some (i * 1, 1) := by kernel_rfl
@[simp] theorem uplace299 (i : Nat) : uplace prog 299 i = some (i * 2, 2) := by kernel_rfl
@[simp] theorem uplace302 (i : Nat) : uplace prog 302 i = some (i * 1, 1) := by kernel_rfl

end Go.Proofs.YtnpndfmbkmbhbaaGreatDoor
