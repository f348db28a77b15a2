/-
  THE LAW StepUnlimited: the statement, from its contract.
  Conditions: none.
-/
import Derived.Test.YtjlifjmjnhdcmaaQ15
import Derived.Test.YtjlifjmjnhdcmaaGd
import Derived.ProofKit
import Derived.OpenShut
namespace Go.Proofs.Ytjlifjmjnhdcmaa
open Go.VS
theorem stepUnlimited_lifted (os : Os) (started : os.Started) (H : Type) (enc : TypeId × Value → H) :
    ReturnsInHanded {} Try.checked os 6 .any (Rows.stepUnlimitedSpec.pre6 enc Try.prog Try.f6 Rows.stepUnlimitedRow.domain false) (Rows.stepUnlimitedSpec.post enc Try.prog Try.f6 false true false false) := by
  refine law_lifted (C := Try.checked) (K := 8) (tb := 4) (by kernel_rfl) (by kernel_rfl) (by kernel_rfl) Try.func6 rfl ?_ (by kernel_rfl) (by kernel_rfl) (by kernel_rfl) (by kernel_rfl) stepUnlimited_fits os started H enc
    (ChangeSpec.witness6 (enc := enc) (C := Try.checked) false ⟨#[], #[.slice none 0 0, .int .i64 0], []⟩ 8 (by kernel_rfl) (by kernel_rfl) (by kernel_rfl) (by kernel_rfl))
  intro H ds hl
  have hl : ds.length = 2 := hl
  match ds, hl with
  | [d0, d1], _ => rfl

theorem stepUnlimited_holds : Rows.StepUnlimitedSaid :=
  OpenClaim.holds_of_wide 6 Try.f6 rfl rfl rfl rfl rfl rfl rfl ⟨rfl, rfl, rfl, rfl, rfl⟩ rfl rfl rfl rfl rfl (by kernel_rfl) Try.func6 (by kernel_rfl)
    (of_decide_eq_true (by kernel_rfl)) (by unfold Func.isWrapper; first | (rw [if_pos (by decide +kernel)]; kernel_rfl) | (rw [if_neg (by decide +kernel)]; exact ⟨rfl, rfl⟩))
    (fun os started H enc _ => stepUnlimited_lifted os started H enc)
#print axioms stepUnlimited_holds
end Go.Proofs.Ytjlifjmjnhdcmaa
