/-
  THE LAW SignerLoad: the statement, from its contract.
  Conditions: none.
-/
import Derived.Test.YthcdofbmmibgjaaS7
import Derived.Test.YthcdofbmmibgjaaGd
import Derived.ProofKit
import Derived.OpenShut
namespace Go.Proofs.Ythcdofbmmibgjaa
open Go.VS
theorem signerLoad_lifted (os : Os) (started : os.Started) (H : Type) (enc : TypeId × Value → H) :
    ReturnsInHanded {} Try.checked os 3 .any (Rows.signerLoadSpec.pre6 enc Try.prog Try.f3 Rows.signerLoadRow.domain false) (Rows.signerLoadSpec.post enc Try.prog Try.f3 false true false false) := by
  refine law_lifted (C := Try.checked) (K := 8) (tb := 4) (by kernel_rfl) (by kernel_rfl) (by kernel_rfl) Try.func3 rfl ?_ (by kernel_rfl) (by kernel_rfl) (by kernel_rfl) signerLoad_fits os started H enc
    (ChangeSpec.witness6 (enc := enc) (C := Try.checked) false ⟨#[], #[.string ⟨#[]⟩, .int .u8 0, .int .u8 0, .slice none 0 0], []⟩ 8 (by kernel_rfl) (by kernel_rfl) (by kernel_rfl) (by kernel_rfl))
  intro H ds hl
  have hl : ds.length = 4 := hl
  match ds, hl with
  | [d0, d1, d2, d3], _ => rfl

theorem signerLoad_holds : Rows.SignerLoadSaid :=
  OpenClaim.holds_of_wide 3 Try.f3 rfl rfl rfl rfl rfl rfl rfl ⟨rfl, rfl, rfl, rfl, rfl⟩ rfl rfl rfl rfl rfl (by kernel_rfl) Try.func3 (by kernel_rfl)
    (of_decide_eq_true (by kernel_rfl)) (by unfold Func.isWrapper; first | (rw [if_pos (by decide +kernel)]; kernel_rfl) | (rw [if_neg (by decide +kernel)]; exact ⟨rfl, rfl⟩))
    (fun os started H enc _ => signerLoad_lifted os started H enc)
#print axioms signerLoad_holds
end Go.Proofs.Ythcdofbmmibgjaa
