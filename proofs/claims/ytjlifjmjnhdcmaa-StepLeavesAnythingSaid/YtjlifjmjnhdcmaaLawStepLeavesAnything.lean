/-
  THE LAW StepLeavesAnything: the statement, from its contract.
  Conditions: none.
-/
import Derived.Test.YtjlifjmjnhdcmaaQ37
import Derived.Test.YtjlifjmjnhdcmaaGd
import Derived.ProofKit
import Derived.OpenShut
namespace Go.Proofs.Ytjlifjmjnhdcmaa
open Go.VS
theorem stepLeavesAnything_lifted (os : Os) (started : os.Started) (H : Type) (enc : TypeId × Value → H) :
    ReturnsInHanded {} Try.checked os 7 .any (Rows.stepLeavesAnythingSpec.pre6 enc Try.prog Try.f7 Rows.stepLeavesAnythingRow.domain false) (Rows.stepLeavesAnythingSpec.post enc Try.prog Try.f7 false true false false) := by
  refine law_lifted (C := Try.checked) (K := 16) (tb := 4) (by kernel_rfl) (by kernel_rfl) (by kernel_rfl) Try.func7 rfl ?_ (by kernel_rfl) (by kernel_rfl) (by kernel_rfl) (by kernel_rfl) stepLeavesAnything_fits os started H enc
    (ChangeSpec.witness6 (enc := enc) (C := Try.checked) false ⟨#[], #[.agg #[.slice none 0 0, .int .i64 0, .string ⟨#[]⟩, .string ⟨#[]⟩, .bool false, .int .i64 0, .int .i64 0, .int .i64 0, .int .i64 0, .slice none 0 0], .agg #[.bool false, .bool false, .int .i64 0, .int .i64 0, .slice none 0 0, .slice none 0 0, .slice none 0 0, .int .i64 0, .int .i64 0, .int .i64 0, .slice none 0 0, .bool false, .slice none 0 0, .slice none 0 0, .string ⟨#[]⟩, .string ⟨#[]⟩, .slice none 0 0, .slice none 0 0, .slice none 0 0], .bool false], []⟩ 16 (by kernel_rfl) (by kernel_rfl) (by kernel_rfl) (by kernel_rfl))
  intro H ds hl
  have hl : ds.length = 3 := hl
  match ds, hl with
  | [d0, d1, d2], _ => rfl

theorem stepLeavesAnything_holds : Rows.StepLeavesAnythingSaid :=
  OpenClaim.holds_of_wide 7 Try.f7 rfl rfl rfl rfl rfl rfl rfl ⟨rfl, rfl, rfl, rfl, rfl⟩ rfl rfl rfl rfl rfl (by kernel_rfl) Try.func7 (by kernel_rfl)
    (of_decide_eq_true (by kernel_rfl)) (by unfold Func.isWrapper; first | (rw [if_pos (by decide +kernel)]; kernel_rfl) | (rw [if_neg (by decide +kernel)]; exact ⟨rfl, rfl⟩))
    (fun os started H enc _ => stepLeavesAnything_lifted os started H enc)
#print axioms stepLeavesAnything_holds
end Go.Proofs.Ytjlifjmjnhdcmaa
