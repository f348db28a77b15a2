/-
  THE LAW OtsBack: the statement, from its contract.
  Conditions: none.
-/
import Derived.Test.YtllehihgfbkgpaaC25
import Derived.Test.YtllehihgfbkgpaaVs23
import Derived.ProofKit
import Derived.OpenShut
namespace Go.Proofs.Ytllehihgfbkgpaa
open Go.VS
theorem otsBack_lifted (os : Os) (started : os.Started) (H : Type) (enc : TypeId × Value → H) :
    ReturnsInHanded {} Try.checked os 14 .any (Rows.otsBackSpec.pre6 enc Try.prog Try.f14 Rows.otsBackRow.domain false) (Rows.otsBackSpec.post enc Try.prog Try.f14 false true false false) := by
  refine law_lifted (C := Try.checked) (K := 8) (tb := 4) (by kernel_rfl) (by kernel_rfl) (by kernel_rfl) Try.func14 rfl ?_ (by kernel_rfl) (by kernel_rfl) (by kernel_rfl) otsBack_fits os started H enc
    (ChangeSpec.witness6 (enc := enc) (C := Try.checked) false ⟨#[], #[.int .u8 0, .int .u8 0, .string ⟨#[]⟩], []⟩ 8 (by kernel_rfl) (by kernel_rfl) (by kernel_rfl) (by kernel_rfl))
  intro H ds hl
  have hl : ds.length = 3 := hl
  match ds, hl with
  | [d0, d1, d2], _ => rfl

theorem otsBack_holds : Rows.OtsBackSaid :=
  OpenClaim.holds_of_wide 14 Try.f14 rfl rfl rfl rfl rfl rfl rfl ⟨rfl, rfl, rfl, rfl, rfl⟩ rfl rfl rfl rfl rfl (by kernel_rfl) Try.func14 (by kernel_rfl)
    (of_decide_eq_true (by kernel_rfl)) (by unfold Func.isWrapper; first | (rw [if_pos (by decide +kernel)]; kernel_rfl) | (rw [if_neg (by decide +kernel)]; exact ⟨rfl, rfl⟩))
    (fun os started H enc _ => otsBack_lifted os started H enc)
#print axioms otsBack_holds
end Go.Proofs.Ytllehihgfbkgpaa
