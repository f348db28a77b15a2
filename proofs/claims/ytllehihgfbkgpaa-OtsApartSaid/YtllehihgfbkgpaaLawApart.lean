/-
  THE LAW OtsApart: the statement, from its contract.
  Conditions: none.
-/
import Derived.Test.YtllehihgfbkgpaaLApart
import Derived.Test.YtllehihgfbkgpaaVs23
import Derived.ProofKit
import Derived.OpenShut
namespace Go.Proofs.Ytllehihgfbkgpaa
open Go.VS
theorem otsApart_lifted (os : Os) (started : os.Started) (H : Type) (enc : TypeId × Value → H) :
    ReturnsInHanded {} Try.checked os 4 .any (Rows.otsApartSpec.pre6 enc Try.prog Try.f4 Rows.otsApartRow.domain false) (Rows.otsApartSpec.post enc Try.prog Try.f4 false true false false) := by
  refine law_lifted (C := Try.checked) (K := 8) (tb := 4) (by kernel_rfl) (by kernel_rfl) (by kernel_rfl) Try.func4 rfl ?_ (by kernel_rfl) (by kernel_rfl) (by kernel_rfl) otsApart_fits os started H enc
    (ChangeSpec.witness6 (enc := enc) (C := Try.checked) false ⟨#[], #[.agg #[.int .u8 0, .int .u8 0, .int .u8 0, .int .u8 0, .int .u8 0, .int .u8 0, .int .u8 0, .int .u8 0, .int .u8 0, .int .u8 0, .int .u8 0, .int .u8 0, .int .u8 0, .int .u8 0, .int .u8 0, .int .u8 0], .agg #[.int .u8 0, .int .u8 0, .int .u8 0, .int .u8 0, .int .u8 0, .int .u8 0, .int .u8 0, .int .u8 0, .int .u8 0, .int .u8 0, .int .u8 0, .int .u8 0, .int .u8 0, .int .u8 0, .int .u8 0, .int .u8 0], .int .u8 0, .int .u8 0, .bool false], []⟩ 8 (by kernel_rfl) (by kernel_rfl) (by kernel_rfl) (by kernel_rfl))
  intro H ds hl
  have hl : ds.length = 5 := hl
  match ds, hl with
  | [d0, d1, d2, d3, d4], _ => rfl

theorem otsApart_holds : Rows.OtsApartSaid :=
  OpenClaim.holds_of_wide 4 Try.f4 rfl rfl rfl rfl rfl rfl rfl ⟨rfl, rfl, rfl, rfl, rfl⟩ rfl rfl rfl rfl rfl (by kernel_rfl) Try.func4 (by kernel_rfl)
    (of_decide_eq_true (by kernel_rfl)) (by unfold Func.isWrapper; first | (rw [if_pos (by decide +kernel)]; kernel_rfl) | (rw [if_neg (by decide +kernel)]; exact ⟨rfl, rfl⟩))
    (fun os started H enc _ => otsApart_lifted os started H enc)
#print axioms otsApart_holds
end Go.Proofs.Ytllehihgfbkgpaa
