/-
  THE LAW OtsDigits: the statement, from its contract.
  Conditions: none.
-/
import Derived.Test.YtllehihgfbkgpaaC12
import Derived.Test.YtllehihgfbkgpaaVs23
import Derived.ProofKit
import Derived.OpenShut
namespace Go.Proofs.Ytllehihgfbkgpaa
open Go.VS
theorem otsDigits_lifted (os : Os) (started : os.Started) (H : Type) (enc : TypeId × Value → H) :
    ReturnsInHanded {} Try.checked os 3 .any (Rows.otsDigitsSpec.pre6 enc Try.prog Try.f3 Rows.otsDigitsRow.domain false) (Rows.otsDigitsSpec.post enc Try.prog Try.f3 false true false false) := by
  refine law_lifted (C := Try.checked) (K := 8) (tb := 4) (by kernel_rfl) (by kernel_rfl) (by kernel_rfl) Try.func3 rfl ?_ (by kernel_rfl) (by kernel_rfl) (by kernel_rfl) otsDigits_fits os started H enc
    (ChangeSpec.witness6 (enc := enc) (C := Try.checked) false ⟨#[], #[.string ⟨#[]⟩, .agg #[.int .u8 0, .int .u8 0, .int .u8 0, .int .u8 0, .int .u8 0, .int .u8 0, .int .u8 0, .int .u8 0, .int .u8 0, .int .u8 0, .int .u8 0, .int .u8 0, .int .u8 0, .int .u8 0, .int .u8 0, .int .u8 0]], []⟩ 8 (by kernel_rfl) (by kernel_rfl) (by kernel_rfl) (by kernel_rfl))
  intro H ds hl
  have hl : ds.length = 2 := hl
  match ds, hl with
  | [d0, d1], _ => rfl

theorem otsDigits_holds : Rows.OtsDigitsSaid :=
  OpenClaim.holds_of_wide 3 Try.f3 rfl rfl rfl rfl rfl rfl rfl ⟨rfl, rfl, rfl, rfl, rfl⟩ rfl rfl rfl rfl rfl (by kernel_rfl) Try.func3 (by kernel_rfl)
    (of_decide_eq_true (by kernel_rfl)) (by unfold Func.isWrapper; first | (rw [if_pos (by decide +kernel)]; kernel_rfl) | (rw [if_neg (by decide +kernel)]; exact ⟨rfl, rfl⟩))
    (fun os started H enc _ => otsDigits_lifted os started H enc)
#print axioms otsDigits_holds
end Go.Proofs.Ytllehihgfbkgpaa
