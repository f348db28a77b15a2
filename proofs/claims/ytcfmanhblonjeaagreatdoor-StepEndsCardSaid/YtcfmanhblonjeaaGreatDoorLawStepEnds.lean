/-
  THE LAW StepEnds: the statement, from its contract.
  Conditions: none.
-/
import Derived.Test.YtcfmanhblonjeaaGreatDoorR9
import Derived.Test.YtcfmanhblonjeaaGreatDoorVs30
import Derived.Test.YtcfmanhblonjeaaGreatDoorTie
import Derived.Test.YtcfmanhblonjeaaGreatDoorCards
import Derived.ProofKit
import Derived.OpenShut
import Derived.LaidMore
import Derived.Lay
import Derived.SevenTiedAt
import Derived.Stop.Joined
namespace Go.Proofs.YtcfmanhblonjeaaGreatDoor
open Go.VS
theorem stepEnds_lifted (os : Os) (started : os.Started) (H : Type) (enc : TypeId × Value → H) :
    ReturnsInHanded {} Tryz.checked os 3 .any (fun w args => (Rows.stepEndsSpec.pre enc Tryz.prog Tryz.f3 Rows.stepEndsRow.domain false w args ∧ laidMetH Tryz.prog Rows.stepEndsRow.laid w) ∧ sizedMet enc Tryz.prog Tryz.f3 (OpenSpec.ofChange Rows.stepEndsSpec) false w args)
      (Rows.stepEndsSpec.post enc Tryz.prog Tryz.f3 false true false false) := by
  refine law_laid (C := Tryz.checked) (K := 8) (tb := 4) (laid := Rows.stepEndsRow.laid) (by kernel_rfl) (by kernel_rfl) (by kernel_rfl) Tryz.func3 rfl ?_ (by kernel_rfl) (by kernel_rfl) (by kernel_rfl)
    (fun W h => gok_shaped (g := 0) (t := 3) (zero := #[.int .i64 0]) h (by kernel_rfl) (show 0 < Tryz.prog.globals.size by decide +kernel) (by kernel_rfl) rfl (by kernel_rfl) (by kernel_rfl) (by kernel_rfl)) stepEnds_fits os started H enc
    (ChangeSpec.witness_shaped (enc := enc) (C := Tryz.checked) (os := os) (X := fun w _ => laidMetH Tryz.prog Rows.stepEndsRow.laid w) false (World.laidAll Tryz.prog os Rows.stepEndsRow.laid) #[.slice none 0 0] 8 (World.laidAll_os _ _ _)
      (World.shaped_of_ZipB (by kernel_rfl) (by kernel_rfl)) (by kernel_rfl) (by kernel_rfl) (by kernel_rfl)
      (by rw [MakeChecks.laidMetH_plain _ _ _ (by kernel_rfl)]; exact laidMet_laidAll _ (by kernel_rfl) (by kernel_rfl)))
  intro H ds hl
  have hl : ds.length = 1 := hl
  match ds, hl with
  | [d0], _ => rfl

theorem stepEnds_row_holds : Rows.StepEndsSaid :=
  OpenClaim.holds_of_wide 3 Tryz.f3 rfl rfl rfl rfl rfl rfl rfl ⟨rfl, rfl, rfl, rfl, rfl⟩ rfl rfl rfl rfl rfl (by kernel_rfl) Tryz.func3 (by kernel_rfl)
    (of_decide_eq_true (by kernel_rfl)) (by unfold Func.isWrapper; first | (rw [if_pos (by decide +kernel)]; kernel_rfl) | (rw [if_neg (by decide +kernel)]; exact ⟨rfl, rfl⟩))
    (fun os started H enc _ => stepEnds_lifted os started H enc)
theorem stepEnds_holds : Rows.StepEndsCardSaid :=
  Claim7.holds_tied_plain_at .later [] [.data, .pinned] true (true, "520b2b9bdd10b60eb190af8159835b85abaa20b2a13d332216635ed275dd1dac") false stepEnds_row_holds (fun _ h => by cases h) (by kernel_rfl) (fun _ h => by cases h) stepEnds_row_tie rfl ⟨rfl, rfl⟩ (by kernel_rfl) rfl
    (fun f fn hf hfn => by
      obtain rfl : f = 3 := Option.some.inj ((show Tryz.prog.funcNamed "certpath/certpathlaw30.StepEnds" = some 3 by kernel_rfl).symm.trans hf) |>.symm
      obtain rfl : fn = Tryz.f3 := (Option.some.inj (Tryz.func3.symm.trans hfn)).symm
      exact ⟨by kernel_rfl, fun j t ht => by
        rw [Tryz.params3] at ht
        have hm : t ∈ [22] := by simpa using Array.mem_of_getElem? ht
        have hall : ([22].all fun u => !Tryz.prog.wantsStandIn u) = true := by kernel_rfl
        exact (show Tryz.prog.wantsStandIn t = false by simpa using List.all_eq_true.1 hall t hm)⟩)
    (by kernel_rfl)
#print axioms stepEnds_holds
end Go.Proofs.YtcfmanhblonjeaaGreatDoor
