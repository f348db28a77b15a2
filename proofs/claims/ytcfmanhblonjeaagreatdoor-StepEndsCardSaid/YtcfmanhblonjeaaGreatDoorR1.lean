/-
  NAMES: general names of all kinds compared, by the reference.
  Conditions: none.
-/
import Derived.Test.YtcfmanhblonjeaaGreatDoorGe
import Derived.Test.YtcfmanhblonjeaaGreatDoorGf
import Derived.Test.YtcfmanhblonjeaaGreatDoorGp
import Derived.Test.YtcfmanhblonjeaaGreatDoorGq
import Derived.Test.YtcfmanhblonjeaaGreatDoorGg
import Derived.Test.YtcfmanhblonjeaaGreatDoorGh
import Derived.Test.YtcfmanhblonjeaaGreatDoorGj
import Derived.Test.YtcfmanhblonjeaaGreatDoorQ6
import Derived.Test.YtcfmanhblonjeaaGreatDoorQ7
import Derived.Test.YtcfmanhblonjeaaGreatDoorShelf
import Derived.Test.YtcfmanhblonjeaaGreatDoorTab
import Derived.Test.YtcfmanhblonjeaaGreatDoorGd
import Derived.Test.YtcfmanhblonjeaaGreatDoorGi
import Derived.Test.YtcfmanhblonjeaaGreatDoorVs30
set_option linter.all false
namespace Go.Proofs.YtcfmanhblonjeaaGreatDoor
open Go.VS Go.Stp
set_option linter.all false
set_option maxRecDepth 100000
set_option maxHeartbeats 4000000
attribute [local irreducible] arun arunD arunU AWp aend
def sameGA (a b : Gn) : Bool :=
  if a.kind = b.kind then
    if a.kind = 1 then (if (Ho.mailB a.text && Ho.mailB b.text) = true then Ho.mmatchB a.text b.text else Ho.eqB a.text b.text)
    else if a.kind = 2 then Ho.eqB a.text b.text
    else if a.kind = 4 then nameB a.name b.name
    else if a.kind = 7 then a.text == b.text else false
  else false
def matchGA (h w : Gn) : Bool := if h.kind = 2 ∧ w.kind = 2 then Ho.matchB h.text w.text else sameGA h w
theorem all_true' {α : Type} {l : List α} {p : α → Bool} (h : ∀ j (hj : j < l.length), p l[j] = true) : l.all p = true := List.all_eq_true.2 fun x hx => by
  obtain ⟨j, hj, rfl⟩ := List.getElem_of_mem hx
  exact h j hj
theorem all_false' {α : Type} {l : List α} {p : α → Bool} {i : Nat} (hi : i < l.length) (h : p l[i] = false) : l.all p = false := by
  cases e : l.all p with
  | false => rfl
  | true => rw [List.all_eq_true.1 e _ (List.getElem_mem hi)] at h; cases h

end Go.Proofs.YtcfmanhblonjeaaGreatDoor

