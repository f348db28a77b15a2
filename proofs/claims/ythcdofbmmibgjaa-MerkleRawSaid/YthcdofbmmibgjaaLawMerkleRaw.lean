/-
  THE LAW MerkleRaw: the statement, from its contract.
  Conditions: none.
-/
import Derived.Test.YthcdofbmmibgjaaM15
import Derived.Test.YthcdofbmmibgjaaGd
import Derived.ProofKit
import Derived.OpenShut
namespace Go.Proofs.Ythcdofbmmibgjaa
open Go.VS
theorem merkleRaw_lifted (os : Os) (started : os.Started) (H : Type) (enc : TypeId × Value → H) :
    ReturnsInHanded {} Try.checked os 8 .any (Rows.merkleRawSpec.pre6 enc Try.prog Try.f8 Rows.merkleRawRow.domain false) (Rows.merkleRawSpec.post enc Try.prog Try.f8 false true false false) := by
  refine law_lifted (C := Try.checked) (K := 8) (tb := 4) (by kernel_rfl) (by kernel_rfl) (by kernel_rfl) Try.func8 rfl ?_ (by kernel_rfl) (by kernel_rfl) (by kernel_rfl) merkleRaw_fits os started H enc
    (ChangeSpec.witness6 (enc := enc) (C := Try.checked) false ⟨#[], #[.agg #[.int .i64 0, .string ⟨#[]⟩, .string ⟨#[]⟩], .string ⟨#[]⟩, .string ⟨#[]⟩, .bool false], []⟩ 8 (by kernel_rfl) (by kernel_rfl) (by kernel_rfl) (by kernel_rfl))
  intro H ds hl
  have hl : ds.length = 4 := hl
  match ds, hl with
  | [d0, d1, d2, d3], _ => rfl

theorem merkleRaw_holds : Rows.MerkleRawSaid :=
  OpenClaim.holds_of_wide 8 Try.f8 rfl rfl rfl rfl rfl rfl rfl ⟨rfl, rfl, rfl, rfl, rfl⟩ rfl rfl rfl rfl rfl (by kernel_rfl) Try.func8 (by kernel_rfl)
    (of_decide_eq_true (by kernel_rfl)) (by unfold Func.isWrapper; first | (rw [if_pos (by decide +kernel)]; kernel_rfl) | (rw [if_neg (by decide +kernel)]; exact ⟨rfl, rfl⟩))
    (fun os started H enc _ => merkleRaw_lifted os started H enc)
#print axioms merkleRaw_holds
end Go.Proofs.Ythcdofbmmibgjaa
