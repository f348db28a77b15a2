/-
  STEP: the form in which the reference compares texts.
  Conditions: none.
-/
import Derived.Test.YtbdfghlkkdkpgaaDoorGe
import Derived.Test.YtbdfghlkkdkpgaaDoorGj
import Derived.Test.YtbdfghlkkdkpgaaDoorTab
import Derived.Test.YtbdfghlkkdkpgaaDoorGd
import Derived.Test.YtbdfghlkkdkpgaaDoorGi
namespace Go.Stp
open Go.VS
def lowS (l : List UInt8) : List UInt8 := l.map lowF
def lowT (l : List UInt8) (i : Nat) : List UInt8 := lowS (l.take i) ++ l.drop i
@[simp] theorem lowT_length (l : List UInt8) (i : Nat) : (lowT l i).length = l.length := by simp [lowT, lowS]; omega
@[simp] theorem lowS_length (l : List UInt8) : (lowS l).length = l.length := by simp [lowS]
theorem lowT_get (l : List UInt8) (i : Nat) (h : i < l.length) : (lowT l i)[i]'(by simpa using h) = l[i] := by
  have hl : (lowS (l.take i)).length = i := by simp; omega
  simp only [lowT]
  rw [List.getElem_append_right (by omega)]
  simp [hl]
theorem lowT_succ (l : List UInt8) (i : Nat) (h : i < l.length) : lowT l (i + 1) = (lowT l i).set i (lowF l[i]) := by
  have hl : (lowS (l.take i)).length = i := by simp; omega
  unfold lowT
  rw [List.set_append_right _ _ (by omega), hl, Nat.sub_self, List.take_succ_eq_append_getElem h, List.drop_eq_getElem_cons h,
    show lowS (l.take i ++ [l[i]]) = lowS (l.take i) ++ [lowF l[i]] from List.map_append, List.append_assoc]
  rfl
theorem lowT_full (l : List UInt8) : lowT l l.length = lowS l := by simp [lowT]
theorem lowT_zero (l : List UInt8) : lowT l 0 = l := by simp [lowT, lowS]
theorem bset_self (l : List UInt8) (i : Nat) (c : UInt8) (h : i < l.length) (e : l[i] = c) : l.set i c = l := by
  apply List.ext_getElem (by simp)
  intro j h1 h2
  rw [List.getElem_set]
  split
  · rename_i h; subst h; exact e.symm
  · rfl
end Go.Stp
namespace Go.Proofs.YtbdfghlkkdkpgaaDoor
open Go.VS Go.Stp
set_option linter.all false
attribute [local irreducible] arun arunD arunU AWp aend
end Go.Proofs.YtbdfghlkkdkpgaaDoor

