/-
  THE LAW HashHex: the statement, from its contract.
  Conditions: none.
-/
import Derived.Test.YtllehihgfbkgpaaC15
import Derived.Test.YtllehihgfbkgpaaVs23
import Derived.ProofKit
import Derived.OpenShut
namespace Go.Proofs.Ytllehihgfbkgpaa
open Go.VS
theorem hashHex_lifted (os : Os) (started : os.Started) (H : Type) (enc : TypeId × Value → H) :
    ReturnsInHanded {} Try.checked os 9 .any (Rows.hashHexSpec.pre6 enc Try.prog Try.f9 Rows.hashHexRow.domain false) (Rows.hashHexSpec.post enc Try.prog Try.f9 false true false false) := by
  refine law_lifted (C := Try.checked) (K := 8) (tb := 4) (by kernel_rfl) (by kernel_rfl) (by kernel_rfl) Try.func9 rfl ?_ (by kernel_rfl) (by kernel_rfl) (by kernel_rfl) hashHex_fits os started H enc
    (ChangeSpec.witness6 (enc := enc) (C := Try.checked) false ⟨#[], #[.string ⟨#[]⟩, .string ⟨#[]⟩], []⟩ 8 (by kernel_rfl) (by kernel_rfl) (by kernel_rfl) (by kernel_rfl))
  intro H ds hl
  have hl : ds.length = 2 := hl
  match ds, hl with
  | [d0, d1], _ => rfl

theorem hashHex_holds : Rows.HashHexSaid :=
  OpenClaim.holds_of_wide 9 Try.f9 rfl rfl rfl rfl rfl rfl rfl ⟨rfl, rfl, rfl, rfl, rfl⟩ rfl rfl rfl rfl rfl (by kernel_rfl) Try.func9 (by kernel_rfl)
    (of_decide_eq_true (by kernel_rfl)) (by unfold Func.isWrapper; first | (rw [if_pos (by decide +kernel)]; kernel_rfl) | (rw [if_neg (by decide +kernel)]; exact ⟨rfl, rfl⟩))
    (fun os started H enc _ => hashHex_lifted os started H enc)
#print axioms hashHex_holds
end Go.Proofs.Ytllehihgfbkgpaa
