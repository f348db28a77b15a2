/-
  THE LAW SignerNever: the statement, from its contract.
  Conditions: none.
-/
import Derived.Test.YthcdofbmmibgjaaS8
import Derived.Test.YthcdofbmmibgjaaGd
import Derived.ProofKit
import Derived.OpenShut
namespace Go.Proofs.Ythcdofbmmibgjaa
open Go.VS
theorem signerNever_lifted (os : Os) (started : os.Started) (H : Type) (enc : TypeId × Value → H) :
    ReturnsInHanded {} Try.checked os 11 .any (Rows.signerNeverSpec.pre6 enc Try.prog Try.f11 Rows.signerNeverRow.domain false) (Rows.signerNeverSpec.post enc Try.prog Try.f11 false true false false) := by
  refine law_lifted (C := Try.checked) (K := 8) (tb := 4) (by kernel_rfl) (by kernel_rfl) (by kernel_rfl) Try.func11 rfl ?_ (by kernel_rfl) (by kernel_rfl) (by kernel_rfl) signerNever_fits os started H enc
    (ChangeSpec.witness6 (enc := enc) (C := Try.checked) false ⟨#[], #[.int .u8 0, .int .u8 0, .slice none 0 0], []⟩ 8 (by kernel_rfl) (by kernel_rfl) (by kernel_rfl) (by kernel_rfl))
  intro H ds hl
  have hl : ds.length = 3 := hl
  match ds, hl with
  | [d0, d1, d2], _ => rfl

theorem signerNever_holds : Rows.SignerNeverSaid :=
  OpenClaim.holds_of_wide 11 Try.f11 rfl rfl rfl rfl rfl rfl rfl ⟨rfl, rfl, rfl, rfl, rfl⟩ rfl rfl rfl rfl rfl (by kernel_rfl) Try.func11 (by kernel_rfl)
    (of_decide_eq_true (by kernel_rfl)) (by unfold Func.isWrapper; first | (rw [if_pos (by decide +kernel)]; kernel_rfl) | (rw [if_neg (by decide +kernel)]; exact ⟨rfl, rfl⟩))
    (fun os started H enc _ => signerNever_lifted os started H enc)
#print axioms signerNever_holds
end Go.Proofs.Ythcdofbmmibgjaa
