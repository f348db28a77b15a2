/-
  THE LAW StepLeaves: the statement, from its contract.
  Conditions: none.
-/
import Derived.Test.YtjlifjmjnhdcmaaQ30
import Derived.Test.YtjlifjmjnhdcmaaGd
import Derived.ProofKit
import Derived.OpenShut
namespace Go.Proofs.Ytjlifjmjnhdcmaa
open Go.VS
theorem stepLeaves_lifted (os : Os) (started : os.Started) (H : Type) (enc : TypeId × Value → H) :
    ReturnsInHanded {} Try.checked os 4 .any (Rows.stepLeavesSpec.pre6 enc Try.prog Try.f4 Rows.stepLeavesRow.domain false) (Rows.stepLeavesSpec.post enc Try.prog Try.f4 false true false false) := by
  refine law_lifted (C := Try.checked) (K := 8) (tb := 4) (by kernel_rfl) (by kernel_rfl) (by kernel_rfl) Try.func4 rfl ?_ (by kernel_rfl) (by kernel_rfl) (by kernel_rfl) (by kernel_rfl) stepLeaves_fits os started H enc
    (ChangeSpec.witness6 (enc := enc) (C := Try.checked) false ⟨#[], #[.slice none 0 0], []⟩ 8 (by kernel_rfl) (by kernel_rfl) (by kernel_rfl) (by kernel_rfl))
  intro H ds hl
  have hl : ds.length = 1 := hl
  match ds, hl with
  | [d0], _ => rfl

theorem stepLeaves_holds : Rows.StepLeavesSaid :=
  OpenClaim.holds_of_wide 4 Try.f4 rfl rfl rfl rfl rfl rfl rfl ⟨rfl, rfl, rfl, rfl, rfl⟩ rfl rfl rfl rfl rfl (by kernel_rfl) Try.func4 (by kernel_rfl)
    (of_decide_eq_true (by kernel_rfl)) (by unfold Func.isWrapper; first | (rw [if_pos (by decide +kernel)]; kernel_rfl) | (rw [if_neg (by decide +kernel)]; exact ⟨rfl, rfl⟩))
    (fun os started H enc _ => stepLeaves_lifted os started H enc)
#print axioms stepLeaves_holds
end Go.Proofs.Ytjlifjmjnhdcmaa
