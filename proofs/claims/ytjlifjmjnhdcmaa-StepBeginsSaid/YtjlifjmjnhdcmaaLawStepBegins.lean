/-
  THE LAW StepBegins: the statement, from its contract.
  Conditions: none.
-/
import Derived.Test.YtjlifjmjnhdcmaaQ32
import Derived.Test.YtjlifjmjnhdcmaaGd
import Derived.ProofKit
import Derived.OpenShut
namespace Go.Proofs.Ytjlifjmjnhdcmaa
open Go.VS
theorem stepBegins_lifted (os : Os) (started : os.Started) (H : Type) (enc : TypeId × Value → H) :
    ReturnsInHanded {} Try.checked os 3 .any (Rows.stepBeginsSpec.pre6 enc Try.prog Try.f3 Rows.stepBeginsRow.domain false) (Rows.stepBeginsSpec.post enc Try.prog Try.f3 false true false false) := by
  refine law_lifted (C := Try.checked) (K := 8) (tb := 4) (by kernel_rfl) (by kernel_rfl) (by kernel_rfl) Try.func3 rfl ?_ (by kernel_rfl) (by kernel_rfl) (by kernel_rfl) (by kernel_rfl) stepBegins_fits os started H enc
    (ChangeSpec.witness6 (enc := enc) (C := Try.checked) false ⟨#[], #[.slice none 0 0, .bool false], []⟩ 8 (by kernel_rfl) (by kernel_rfl) (by kernel_rfl) (by kernel_rfl))
  intro H ds hl
  have hl : ds.length = 2 := hl
  match ds, hl with
  | [d0, d1], _ => rfl

theorem stepBegins_holds : Rows.StepBeginsSaid :=
  OpenClaim.holds_of_wide 3 Try.f3 rfl rfl rfl rfl rfl rfl rfl ⟨rfl, rfl, rfl, rfl, rfl⟩ rfl rfl rfl rfl rfl (by kernel_rfl) Try.func3 (by kernel_rfl)
    (of_decide_eq_true (by kernel_rfl)) (by unfold Func.isWrapper; first | (rw [if_pos (by decide +kernel)]; kernel_rfl) | (rw [if_neg (by decide +kernel)]; exact ⟨rfl, rfl⟩))
    (fun os started H enc _ => stepBegins_lifted os started H enc)
#print axioms stepBegins_holds
end Go.Proofs.Ytjlifjmjnhdcmaa
