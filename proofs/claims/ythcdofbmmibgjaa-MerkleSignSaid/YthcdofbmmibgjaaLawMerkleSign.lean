/-
  THE LAW MerkleSign: the statement, from its contract.
  Conditions: none.
-/
import Derived.Test.YthcdofbmmibgjaaM13
import Derived.Test.YthcdofbmmibgjaaGd
import Derived.ProofKit
import Derived.OpenShut
namespace Go.Proofs.Ythcdofbmmibgjaa
open Go.VS
theorem merkleSign_lifted (os : Os) (started : os.Started) (H : Type) (enc : TypeId × Value → H) :
    ReturnsInHanded {} Try.checked os 6 .any (Rows.merkleSignSpec.pre6 enc Try.prog Try.f6 Rows.merkleSignRow.domain false) (Rows.merkleSignSpec.post enc Try.prog Try.f6 false true false false) := by
  refine law_lifted (C := Try.checked) (K := 8) (tb := 4) (by kernel_rfl) (by kernel_rfl) (by kernel_rfl) Try.func6 rfl ?_ (by kernel_rfl) (by kernel_rfl) (by kernel_rfl) merkleSign_fits os started H enc
    (ChangeSpec.witness6 (enc := enc) (C := Try.checked) false ⟨#[], #[.int .u8 0, .int .u8 0, .int .u8 0, .string ⟨#[]⟩], []⟩ 8 (by kernel_rfl) (by kernel_rfl) (by kernel_rfl) (by kernel_rfl))
  intro H ds hl
  have hl : ds.length = 4 := hl
  match ds, hl with
  | [d0, d1, d2, d3], _ => rfl

theorem merkleSign_holds : Rows.MerkleSignSaid :=
  OpenClaim.holds_of_wide 6 Try.f6 rfl rfl rfl rfl rfl rfl rfl ⟨rfl, rfl, rfl, rfl, rfl⟩ rfl rfl rfl rfl rfl (by kernel_rfl) Try.func6 (by kernel_rfl)
    (of_decide_eq_true (by kernel_rfl)) (by unfold Func.isWrapper; first | (rw [if_pos (by decide +kernel)]; kernel_rfl) | (rw [if_neg (by decide +kernel)]; exact ⟨rfl, rfl⟩))
    (fun os started H enc _ => merkleSign_lifted os started H enc)
#print axioms merkleSign_holds
end Go.Proofs.Ythcdofbmmibgjaa
