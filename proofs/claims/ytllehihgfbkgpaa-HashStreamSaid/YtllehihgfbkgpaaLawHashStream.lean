/-
  THE LAW HashStream: the statement, from its contract.
  Conditions: none.
-/
import Derived.Test.YtllehihgfbkgpaaC16
import Derived.Test.YtllehihgfbkgpaaVs23
import Derived.ProofKit
import Derived.OpenShut
namespace Go.Proofs.Ytllehihgfbkgpaa
open Go.VS
theorem hashStream_lifted (os : Os) (started : os.Started) (H : Type) (enc : TypeId × Value → H) :
    ReturnsInHanded {} Try.checked os 8 .any (Rows.hashStreamSpec.pre6 enc Try.prog Try.f8 Rows.hashStreamRow.domain false) (Rows.hashStreamSpec.post enc Try.prog Try.f8 false true false false) := by
  refine law_lifted (C := Try.checked) (K := 8) (tb := 4) (by kernel_rfl) (by kernel_rfl) (by kernel_rfl) Try.func8 rfl ?_ (by kernel_rfl) (by kernel_rfl) (by kernel_rfl) hashStream_fits os started H enc
    (ChangeSpec.witness6 (enc := enc) (C := Try.checked) false ⟨#[], #[.slice none 0 0], []⟩ 8 (by kernel_rfl) (by kernel_rfl) (by kernel_rfl) (by kernel_rfl))
  intro H ds hl
  have hl : ds.length = 1 := hl
  match ds, hl with
  | [d0], _ => rfl

theorem hashStream_holds : Rows.HashStreamSaid :=
  OpenClaim.holds_of_wide 8 Try.f8 rfl rfl rfl rfl rfl rfl rfl ⟨rfl, rfl, rfl, rfl, rfl⟩ rfl rfl rfl rfl rfl (by kernel_rfl) Try.func8 (by kernel_rfl)
    (of_decide_eq_true (by kernel_rfl)) (by unfold Func.isWrapper; first | (rw [if_pos (by decide +kernel)]; kernel_rfl) | (rw [if_neg (by decide +kernel)]; exact ⟨rfl, rfl⟩))
    (fun os started H enc _ => hashStream_lifted os started H enc)
#print axioms hashStream_holds
end Go.Proofs.Ytllehihgfbkgpaa
