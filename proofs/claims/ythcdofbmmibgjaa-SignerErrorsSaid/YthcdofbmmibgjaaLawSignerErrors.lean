/-
  THE LAW SignerErrors: the statement, from its contract.
  Conditions: none.
-/
import Derived.Test.YthcdofbmmibgjaaS6
import Derived.Test.YthcdofbmmibgjaaGd
import Derived.ProofKit
import Derived.OpenShut
namespace Go.Proofs.Ythcdofbmmibgjaa
open Go.VS
theorem signerErrors_lifted (os : Os) (started : os.Started) (H : Type) (enc : TypeId × Value → H) :
    ReturnsInHanded {} Try.checked os 10 .any (Rows.signerErrorsSpec.pre6 enc Try.prog Try.f10 Rows.signerErrorsRow.domain false) (Rows.signerErrorsSpec.post enc Try.prog Try.f10 false true false false) := by
  refine law_lifted (C := Try.checked) (K := 8) (tb := 4) (by kernel_rfl) (by kernel_rfl) (by kernel_rfl) Try.func10 rfl ?_ (by kernel_rfl) (by kernel_rfl) (by kernel_rfl) signerErrors_fits os started H enc
    (ChangeSpec.witness6 (enc := enc) (C := Try.checked) false ⟨#[], #[.string ⟨#[]⟩, .int .i64 0, .int .i64 0, .int .i64 0, .int .u8 0], []⟩ 8 (by kernel_rfl) (by kernel_rfl) (by kernel_rfl) (by kernel_rfl))
  intro H ds hl
  have hl : ds.length = 5 := hl
  match ds, hl with
  | [d0, d1, d2, d3, d4], _ => rfl

theorem signerErrors_holds : Rows.SignerErrorsSaid :=
  OpenClaim.holds_of_wide 10 Try.f10 rfl rfl rfl rfl rfl rfl rfl ⟨rfl, rfl, rfl, rfl, rfl⟩ rfl rfl rfl rfl rfl (by kernel_rfl) Try.func10 (by kernel_rfl)
    (of_decide_eq_true (by kernel_rfl)) (by unfold Func.isWrapper; first | (rw [if_pos (by decide +kernel)]; kernel_rfl) | (rw [if_neg (by decide +kernel)]; exact ⟨rfl, rfl⟩))
    (fun os started H enc _ => signerErrors_lifted os started H enc)
#print axioms signerErrors_holds
end Go.Proofs.Ythcdofbmmibgjaa
