/-
  THE LAW MerkleGenerate: the statement, from its contract.
  Conditions: none.
-/
import Derived.Test.YthcdofbmmibgjaaM13
import Derived.Test.YthcdofbmmibgjaaGd
import Derived.ProofKit
import Derived.OpenShut
namespace Go.Proofs.Ythcdofbmmibgjaa
open Go.VS
theorem merkleGenerate_lifted (os : Os) (started : os.Started) (H : Type) (enc : TypeId × Value → H) :
    ReturnsInHanded {} Try.checked os 4 .any (Rows.merkleGenerateSpec.pre6 enc Try.prog Try.f4 Rows.merkleGenerateRow.domain false) (Rows.merkleGenerateSpec.post enc Try.prog Try.f4 false true false false) := by
  refine law_lifted (C := Try.checked) (K := 8) (tb := 4) (by kernel_rfl) (by kernel_rfl) (by kernel_rfl) Try.func4 rfl ?_ (by kernel_rfl) (by kernel_rfl) (by kernel_rfl) merkleGenerate_fits os started H enc
    (ChangeSpec.witness6 (enc := enc) (C := Try.checked) false ⟨#[], #[.int .u8 0, .int .u8 0], []⟩ 8 (by kernel_rfl) (by kernel_rfl) (by kernel_rfl) (by kernel_rfl))
  intro H ds hl
  have hl : ds.length = 2 := hl
  match ds, hl with
  | [d0, d1], _ => rfl

theorem merkleGenerate_holds : Rows.MerkleGenerateSaid :=
  OpenClaim.holds_of_wide 4 Try.f4 rfl rfl rfl rfl rfl rfl rfl ⟨rfl, rfl, rfl, rfl, rfl⟩ rfl rfl rfl rfl rfl (by kernel_rfl) Try.func4 (by kernel_rfl)
    (of_decide_eq_true (by kernel_rfl)) (by unfold Func.isWrapper; first | (rw [if_pos (by decide +kernel)]; kernel_rfl) | (rw [if_neg (by decide +kernel)]; exact ⟨rfl, rfl⟩))
    (fun os started H enc _ => merkleGenerate_lifted os started H enc)
#print axioms merkleGenerate_holds
end Go.Proofs.Ythcdofbmmibgjaa
