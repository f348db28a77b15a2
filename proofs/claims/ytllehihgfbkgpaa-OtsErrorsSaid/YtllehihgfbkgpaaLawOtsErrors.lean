/-
  THE LAW OtsErrors: the statement, from its contract.
  Conditions: none.
-/
import Derived.Test.YtllehihgfbkgpaaC26
import Derived.Test.YtllehihgfbkgpaaVs23
import Derived.ProofKit
import Derived.OpenShut
namespace Go.Proofs.Ytllehihgfbkgpaa
open Go.VS
theorem otsErrors_lifted (os : Os) (started : os.Started) (H : Type) (enc : TypeId × Value → H) :
    ReturnsInHanded {} Try.checked os 13 .any (Rows.otsErrorsSpec.pre6 enc Try.prog Try.f13 Rows.otsErrorsRow.domain false) (Rows.otsErrorsSpec.post enc Try.prog Try.f13 false true false false) := by
  refine law_lifted (C := Try.checked) (K := 8) (tb := 4) (by kernel_rfl) (by kernel_rfl) (by kernel_rfl) Try.func13 rfl ?_ (by kernel_rfl) (by kernel_rfl) (by kernel_rfl) otsErrors_fits os started H enc
    (ChangeSpec.witness6 (enc := enc) (C := Try.checked) false ⟨#[], #[.string ⟨#[]⟩, .string ⟨#[]⟩, .string ⟨#[]⟩, .string ⟨#[]⟩, .int .i64 0, .int .u8 0], []⟩ 8 (by kernel_rfl) (by kernel_rfl) (by kernel_rfl) (by kernel_rfl))
  intro H ds hl
  have hl : ds.length = 6 := hl
  match ds, hl with
  | [d0, d1, d2, d3, d4, d5], _ => rfl

theorem otsErrors_holds : Rows.OtsErrorsSaid :=
  OpenClaim.holds_of_wide 13 Try.f13 rfl rfl rfl rfl rfl rfl rfl ⟨rfl, rfl, rfl, rfl, rfl⟩ rfl rfl rfl rfl rfl (by kernel_rfl) Try.func13 (by kernel_rfl)
    (of_decide_eq_true (by kernel_rfl)) (by unfold Func.isWrapper; first | (rw [if_pos (by decide +kernel)]; kernel_rfl) | (rw [if_neg (by decide +kernel)]; exact ⟨rfl, rfl⟩))
    (fun os started H enc _ => otsErrors_lifted os started H enc)
#print axioms otsErrors_holds
end Go.Proofs.Ytllehihgfbkgpaa
