/-
  THE LAW MerkleVerify: the statement, from its contract.
  Conditions: none.
-/
import Derived.Test.YthcdofbmmibgjaaM15
import Derived.Test.YthcdofbmmibgjaaGd
import Derived.ProofKit
import Derived.OpenShut
namespace Go.Proofs.Ythcdofbmmibgjaa
open Go.VS
theorem merkleVerify_lifted (os : Os) (started : os.Started) (H : Type) (enc : TypeId × Value → H) :
    ReturnsInHanded {} Try.checked os 7 .any (Rows.merkleVerifySpec.pre6 enc Try.prog Try.f7 Rows.merkleVerifyRow.domain false) (Rows.merkleVerifySpec.post enc Try.prog Try.f7 false true false false) := by
  refine law_lifted (C := Try.checked) (K := 8) (tb := 4) (by kernel_rfl) (by kernel_rfl) (by kernel_rfl) Try.func7 rfl ?_ (by kernel_rfl) (by kernel_rfl) (by kernel_rfl) merkleVerify_fits os started H enc
    (ChangeSpec.witness6 (enc := enc) (C := Try.checked) false ⟨#[], #[.int .u8 0, .int .u8 0, .int .u8 0, .string ⟨#[]⟩, .string ⟨#[]⟩, .slice none 0 0], []⟩ 8 (by kernel_rfl) (by kernel_rfl) (by kernel_rfl) (by kernel_rfl))
  intro H ds hl
  have hl : ds.length = 6 := hl
  match ds, hl with
  | [d0, d1, d2, d3, d4, d5], _ => rfl

theorem merkleVerify_holds : Rows.MerkleVerifySaid :=
  OpenClaim.holds_of_wide 7 Try.f7 rfl rfl rfl rfl rfl rfl rfl ⟨rfl, rfl, rfl, rfl, rfl⟩ rfl rfl rfl rfl rfl (by kernel_rfl) Try.func7 (by kernel_rfl)
    (of_decide_eq_true (by kernel_rfl)) (by unfold Func.isWrapper; first | (rw [if_pos (by decide +kernel)]; kernel_rfl) | (rw [if_neg (by decide +kernel)]; exact ⟨rfl, rfl⟩))
    (fun os started H enc _ => merkleVerify_lifted os started H enc)
#print axioms merkleVerify_holds
end Go.Proofs.Ythcdofbmmibgjaa
