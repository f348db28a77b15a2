/-
  STEP: attributes and names from a deck.
  Conditions: none.
-/
import Derived.Test.YtcfmanhblonjeaaGreatDoorGe
import Derived.Test.YtcfmanhblonjeaaGreatDoorGf
import Derived.Test.YtcfmanhblonjeaaGreatDoorGg
import Derived.Test.YtcfmanhblonjeaaGreatDoorGh
import Derived.Test.YtcfmanhblonjeaaGreatDoorGj
import Derived.Test.YtcfmanhblonjeaaGreatDoorGl
import Derived.Test.YtcfmanhblonjeaaGreatDoorTab
import Derived.Test.YtcfmanhblonjeaaGreatDoorGd
import Derived.Test.YtcfmanhblonjeaaGreatDoorGi
namespace Go.Stp
open Go.VS
def attrL : List At := [⟨[50, 46, 53, 46, 52, 46, 51], 12, [65, 110, 110]⟩,
  ⟨[50, 46, 53, 46, 52, 46, 51], 19, [32, 97, 110, 110]⟩,
  ⟨[50, 46, 53, 46, 52, 46, 51], 12, [103, 114, 195, 182, 195, 159, 101]⟩,
  ⟨[50, 46, 53, 46, 52, 46, 54], 19, [85, 83]⟩,
  ⟨[50, 46, 53, 46, 52, 46, 49, 48], 19, [69, 120, 97, 109, 112, 108, 101, 32, 32, 67, 111, 114, 112]⟩,
  ⟨[50, 46, 53, 46, 52, 46, 49, 48], 12, [101, 120, 97, 109, 112, 108, 101, 32, 99, 111, 114, 112]⟩,
  ⟨[50, 46, 53, 46, 52, 46, 49, 49], 22, [97, 44, 98, 43, 99, 61, 100, 92, 101]⟩,
  ⟨[48, 46, 57, 46, 50, 51, 52, 50, 46, 49, 57, 50, 48, 48, 51, 48, 48, 46, 49, 48, 48, 46, 49, 46, 50, 53], 22, [111, 114, 103]⟩,
  ⟨[49, 46, 50, 46, 56, 52, 48, 46, 49, 49, 51, 53, 52, 57, 46, 49, 46, 57, 46, 49], 22, [97, 110, 110, 64, 101, 120, 97, 109, 112, 108, 101, 46, 111, 114, 103]⟩,
  ⟨[49, 46, 50, 46, 56, 52, 48, 46, 49, 49, 51, 53, 52, 57, 46, 49, 46, 57, 46, 49], 22, [110, 111, 32, 97, 100, 100, 114, 101, 115, 115]⟩,
  ⟨[50, 46, 53, 46, 52, 46, 57, 57], 19, [120]⟩,
  ⟨[50, 46, 53, 46, 52, 46, 55], 12, [76]⟩]
def attrS (x : Int) : At := attrL.getD x.toNat ⟨[], 0, []⟩
theorem attrS_small (x : Int) : (attrS x).v.length ≤ 20 := by
  unfold attrS
  rw [List.getD_eq_getElem?_getD]
  cases h : attrL[x.toNat]? with
  | none => simp
  | some y =>
    have : ∀ z ∈ attrL, z.v.length ≤ 20 := by decide
    exact this _ (List.mem_of_getElem? h)
end Go.Stp
namespace Go.Proofs.YtcfmanhblonjeaaGreatDoor
open Go.VS Go.Stp
def rdnS (l : List Int) (a : Nat) : List At × Nat :=
  if dkX l a 5 < 4 then ([attrS (dkX l (dkA l a) 12)], dkA l (dkA l a))
  else (if (attrS (dkX l (dkA l a) 12)).t = (attrS (dkX l (dkA l (dkA l a)) 12)).t then [attrS (dkX l (dkA l a) 12)] else [attrS (dkX l (dkA l a) 12), attrS (dkX l (dkA l (dkA l a)) 12)], dkA l (dkA l (dkA l a)))
def rdnsS (l : List Int) (a : Nat) : Nat → Nm × Nat
  | 0 => ([], a)
  | n + 1 => ((rdnsS l a n).1 ++ [(rdnS l (rdnsS l a n).2).1], (rdnS l (rdnsS l a n).2).2)
def nameS (l : List Int) (a : Nat) : Nm × Nat := rdnsS l (dkA l a) (dkX l a 4).toNat
theorem rdnS_le {l : List Int} {a : Nat} (h : a ≤ l.length) : (rdnS l a).2 ≤ l.length := by
  unfold rdnS
  split
  · exact dkA_le (dkA_le h)
  · exact dkA_le (dkA_le (dkA_le h))
theorem rdnsS_le {l : List Int} {a : Nat} (h : a ≤ l.length) : ∀ n, (rdnsS l a n).2 ≤ l.length
  | 0 => h
  | n + 1 => rdnS_le (rdnsS_le h n)
theorem rdnsS_len {l : List Int} {a : Nat} : ∀ n, (rdnsS l a n).1.length = n
  | 0 => rfl
  | n + 1 => by simp [rdnsS, rdnsS_len n]
theorem nameS_le {l : List Int} {a : Nat} (h : a ≤ l.length) : (nameS l a).2 ≤ l.length := rdnsS_le (dkA_le h) _
theorem rdnS_len {l : List Int} {a : Nat} : (rdnS l a).1.length ≤ 2 := by
  unfold rdnS
  split
  · simp
  · dsimp only; split <;> simp
theorem rdnS_small {l : List Int} {a : Nat} : ∀ x ∈ (rdnS l a).1, x.v.length ≤ 20 := by
  unfold rdnS
  split
  · simp [attrS_small]
  · dsimp only; split <;> simp [attrS_small]
theorem rdnsS_small {l : List Int} {a : Nat} : ∀ n, ∀ r ∈ (rdnsS l a n).1, r.length ≤ 2 ∧ ∀ x ∈ r, x.v.length ≤ 20
  | 0 => by simp [rdnsS]
  | n + 1 => by
    intro r hr
    simp only [rdnsS, List.mem_append, List.mem_singleton] at hr
    rcases hr with hr | rfl
    · exact rdnsS_small n r hr
    · exact ⟨rdnS_len, rdnS_small⟩
theorem nameS_len {l : List Int} {a : Nat} : (nameS l a).1.length ≤ 3 := by
  unfold nameS
  rw [rdnsS_len]
  have := dkX_bounds (l := l) (a := a) (n := 4) (by omega)
  omega
theorem nameS_wn {l : List Int} {a : Nat} : WN (nameS l a).1 := by
  refine ⟨by have := nameS_len (l := l) (a := a); omega, fun r hr => ?_⟩
  have := rdnsS_small _ r hr
  exact ⟨by omega, fun x hx => by have := this.2 x hx; omega⟩
set_option linter.all false
set_option maxRecDepth 100000
set_option maxHeartbeats 8000000
attribute [local irreducible] arun arunD AWp aend
theorem attr_call (l : List Int) (a : Nat) (hl : l.length ≤ 140737488355328) (ha : a ≤ l.length) (hr : ∀ k ∈ l, -9223372036854775808 ≤ k ∧ k ≤ 9223372036854775807) :
    MCall Tryz.prog 26 [.ref 0 0] (dk l a) (dk l (dkA l a)) (.agg (attrS (dkX l a 12)).c) := by
  have n1 : MCall Tryz.prog 7 [.ref 0 0, .int .i64 12] (dk l a) (dk l (dkA l a)) (.int .i64 (dkX l a 12)) := next_call l a 12 hl ha (by omega) (by omega) hr
  have b := dkX_bounds (l := l) (a := a) (n := 12) (by omega)
  generalize dkX l a 12 = x at *
  generalize dkA l a = a1 at *
  have hx : x = 0 ∨ x = 1 ∨ x = 2 ∨ x = 3 ∨ x = 4 ∨ x = 5 ∨ x = 6 ∨ x = 7 ∨ x = 8 ∨ x = 9 ∨ x = 10 ∨ x = 11 := by omega
  refine mcall_body Tryz.func26 rfl Tryz.call26 ?_ ?_ ?_
  rotate_left 2
  refine awp_slots (s' := (.ref 0 0 : V) :: zJ 19) rfl ?_; dsimp only [zJ]
  · rcases hx with rfl | rfl | rfl | rfl | rfl | rfl | rfl | rfl | rfl | rfl | rfl | rfl
    all_goals (
      simp only [attrS, At.c]
      repeat' (first | (refine Y0 rfl fun K9 h9 => ?_; simp (disch := first | exact dd | fail); (try simp (disch := first | exact de | fail) only [X7]); ((first | refine acall_mutd n1 rfl (dk_pures _ _) (dk_pures _ _) .int (by simp) ?_ | skip) <;> ((repeat (refine Yz ?_)); (first | refine h9 _ _ (Ys ?_)); clear h9 K9))) | refine Y6 ?_ | (refine Y8 fun K hK => ?_) | refine Y9 ?_ | (apply hK; clear hK K) | (refine Ye ?_; refine Yf ?_) | refine Yg ?_ | (simp only [X0, Nat.reduceBEq]) | clear hK K)
      simp [attrL]
      exact mend_plain)
  · simp [At.c]
  · exact dk_pures _ _
end Go.Proofs.YtcfmanhblonjeaaGreatDoor

