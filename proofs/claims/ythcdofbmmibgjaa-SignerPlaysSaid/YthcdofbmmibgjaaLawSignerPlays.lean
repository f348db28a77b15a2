/-
  THE LAW SignerPlays: the statement, from its contract.
  Conditions: none.
-/
import Derived.Test.YthcdofbmmibgjaaS9
import Derived.Test.YthcdofbmmibgjaaGd
import Derived.ProofKit
import Derived.OpenShut
namespace Go.Proofs.Ythcdofbmmibgjaa
open Go.VS
theorem signerPlays_lifted (os : Os) (started : os.Started) (H : Type) (enc : TypeId × Value → H) :
    ReturnsInHanded {} Try.checked os 12 .any (Rows.signerPlaysSpec.pre6 enc Try.prog Try.f12 Rows.signerPlaysRow.domain false) (Rows.signerPlaysSpec.post enc Try.prog Try.f12 false true false false) := by
  refine law_lifted (C := Try.checked) (K := 8) (tb := 4) (by kernel_rfl) (by kernel_rfl) (by kernel_rfl) Try.func12 rfl ?_ (by kernel_rfl) (by kernel_rfl) (by kernel_rfl) signerPlays_fits os started H enc
    (ChangeSpec.witness6 (enc := enc) (C := Try.checked) false ⟨#[], #[.int .u8 0, .int .u8 0, .slice none 0 0], []⟩ 8 (by kernel_rfl) (by kernel_rfl) (by kernel_rfl) (by kernel_rfl))
  intro H ds hl
  have hl : ds.length = 3 := hl
  match ds, hl with
  | [d0, d1, d2], _ => rfl

theorem signerPlays_holds : Rows.SignerPlaysSaid :=
  OpenClaim.holds_of_wide 12 Try.f12 rfl rfl rfl rfl rfl rfl rfl ⟨rfl, rfl, rfl, rfl, rfl⟩ rfl rfl rfl rfl rfl (by kernel_rfl) Try.func12 (by kernel_rfl)
    (of_decide_eq_true (by kernel_rfl)) (by unfold Func.isWrapper; first | (rw [if_pos (by decide +kernel)]; kernel_rfl) | (rw [if_neg (by decide +kernel)]; exact ⟨rfl, rfl⟩))
    (fun os started H enc _ => signerPlays_lifted os started H enc)
#print axioms signerPlays_holds
end Go.Proofs.Ythcdofbmmibgjaa
