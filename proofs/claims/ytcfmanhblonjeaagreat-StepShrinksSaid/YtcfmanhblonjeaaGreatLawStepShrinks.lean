/-
  THE LAW StepShrinks: the statement, from its contract.
  Conditions: none.
-/
import Derived.Test.YtcfmanhblonjeaaGreatR3
import Derived.Test.YtcfmanhblonjeaaGreatGd
import Derived.ProofKit
import Derived.OpenShut
namespace Go.Proofs.YtcfmanhblonjeaaGreat
open Go.VS
theorem stepShrinks_lifted (os : Os) (started : os.Started) (H : Type) (enc : TypeId × Value → H) :
    ReturnsInHanded {} Tryz.checked os 3 .any (Rows.stepShrinksSpec.pre6 enc Tryz.prog Tryz.f3 Rows.stepShrinksRow.domain false) (Rows.stepShrinksSpec.post enc Tryz.prog Tryz.f3 false true false false) := by
  refine law_lifted (C := Tryz.checked) (K := 8) (tb := 4) (by kernel_rfl) (by kernel_rfl) (by kernel_rfl) Tryz.func3 rfl ?_ (by kernel_rfl) (by kernel_rfl) (by kernel_rfl) (by kernel_rfl) stepShrinks_fits os started H enc
    (ChangeSpec.witness6 (enc := enc) (C := Tryz.checked) false ⟨#[], #[.slice none 0 0], []⟩ 8 (by kernel_rfl) (by kernel_rfl) (by kernel_rfl) (by kernel_rfl))
  intro H ds hl
  have hl : ds.length = 1 := hl
  match ds, hl with
  | [d0], _ => rfl

theorem stepShrinks_holds : Rows.StepShrinksSaid :=
  OpenClaim.holds_of_wide 3 Tryz.f3 rfl rfl rfl rfl rfl rfl rfl ⟨rfl, rfl, rfl, rfl, rfl⟩ rfl rfl rfl rfl rfl (by kernel_rfl) Tryz.func3 (by kernel_rfl)
    (of_decide_eq_true (by kernel_rfl)) (by unfold Func.isWrapper; first | (rw [if_pos (by decide +kernel)]; kernel_rfl) | (rw [if_neg (by decide +kernel)]; exact ⟨rfl, rfl⟩))
    (fun os started H enc _ => stepShrinks_lifted os started H enc)
#print axioms stepShrinks_holds
end Go.Proofs.YtcfmanhblonjeaaGreat
