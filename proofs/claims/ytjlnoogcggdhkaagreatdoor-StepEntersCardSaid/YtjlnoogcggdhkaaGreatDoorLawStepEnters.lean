/-
 THE LAW StepEnters: the statement, from its contract.
 Conditions: none.
-/
import Derived.Test.YtjlnoogcggdhkaaGreatDoorT4
import Derived.Test.YtjlnoogcggdhkaaGreatDoorTie
import Derived.Test.YtjlnoogcggdhkaaGreatDoorCards
import Derived.LaidMore
import Derived.Lay
import Derived.SevenTiedAt
import Derived.Stop.Joined
namespace Go.Proofs.YtjlnoogcggdhkaaGreatDoor
open Go.VS
theorem stepEnters_lifted (os : Os) (started : os.Started) (H : Type) (enc : TypeId × Value → H) :
  ReturnsInHanded {} Tryz.checked os 3 .any (fun w args => (Rows.stepEntersSpec.pre enc Tryz.prog Tryz.f3 Rows.stepEntersRow.domain false w args ∧ laidMetH Tryz.prog Rows.stepEntersRow.laid w) ∧ sizedMet enc Tryz.prog Tryz.f3 (OpenSpec.ofChange Rows.stepEntersSpec) false w args)
   (Rows.stepEntersSpec.post enc Tryz.prog Tryz.f3 false true false false) := by
 refine law_laid (C := Tryz.checked) (K := 8) (tb := 4) (laid := Rows.stepEntersRow.laid) (by kernel_rfl) (by kernel_rfl) (by kernel_rfl) Tryz.func3 rfl ?_ (by kernel_rfl) (by kernel_rfl) (by kernel_rfl)
  (fun W h => gok_shaped (g := 0) (t := 3) (zero := #[.int .i64 0]) h (by kernel_rfl) (show 0 < Tryz.prog.globals.size by decide +kernel) (by kernel_rfl) rfl (by kernel_rfl) (by kernel_rfl) (by kernel_rfl)) stepEnters_fits os started H enc
  (ChangeSpec.witness_shaped (enc := enc) (C := Tryz.checked) (os := os) (X := fun w _ => laidMetH Tryz.prog Rows.stepEntersRow.laid w) false (World.laidAll Tryz.prog os Rows.stepEntersRow.laid) #[.slice none 0 0, .int .i64 0, .bool false] 8 (World.laidAll_os _ _ _)
   (World.shaped_of_ZipB (by kernel_rfl) (by kernel_rfl)) (by kernel_rfl) (by kernel_rfl) (by kernel_rfl)
   (by rw [MakeChecks.laidMetH_plain _ _ _ (by kernel_rfl)]; exact laidMet_laidAll _ (by kernel_rfl) (by kernel_rfl)))
 intro H ds hl
 have hl : ds.length = 3 := hl
 match ds, hl with
 | [d0, d1, d2], _ => rfl

theorem stepEnters_q1 : (Rows.stepEntersRow.inPlace == Tryz.pinned.checked.prog.inPlace 3) = true := by kernel_rfl
theorem stepEnters_q2 : (Rows.stepEntersRow.unfollowed == Tryz.pinned.checked.prog.unfollowed 3) = true := by kernel_rfl
theorem stepEnters_q3 : (Rows.stepEntersRow.recurses == Tryz.pinned.checked.prog.recurses 3) = true := by kernel_rfl
theorem stepEnters_q4 : (Rows.stepEntersRow.named == Tryz.pinned.checked.prog.varsNamed 3) = true := by kernel_rfl
theorem stepEnters_closed : joinedFacts Tryz.pinned.checked.prog 3 Tryz.f3 Rows.stepEntersSpec Rows.stepEntersRow = true := by
 unfold joinedFacts
 rw [stepEnters_q1, stepEnters_q2, stepEnters_q3, stepEnters_q4]
 kernel_rfl
theorem stepEnters_row_holds : Rows.StepEntersSaid :=
 OpenClaim.holds_of_wide 3 Tryz.f3 rfl rfl rfl rfl rfl rfl rfl ⟨rfl, rfl, rfl, rfl, rfl⟩ rfl rfl rfl rfl rfl (by kernel_rfl) Tryz.func3 stepEnters_closed
  (of_decide_eq_true (by kernel_rfl)) (by unfold Func.isWrapper; first | (rw [if_pos (by decide +kernel)]; kernel_rfl) | (rw [if_neg (by decide +kernel)]; exact ⟨rfl, rfl⟩))
  (fun os started H enc _ => stepEnters_lifted os started H enc)
theorem stepEnters_holds : Rows.StepEntersCardSaid :=
 Claim7.holds_tied_plain_at .later [] [.data, .pinned] true (true, "5ac70c92537888ad8f04b9c76f4f33f30a3e46fd43cc0a321c92ef06060ece01") false stepEnters_row_holds (fun _ h => by cases h) (by kernel_rfl) (fun _ h => by cases h) stepEnters_row_tie rfl ⟨rfl, rfl⟩ (by kernel_rfl) rfl
  (fun f fn hf hfn => by
   obtain rfl : f = 3 := Option.some.inj ((show Tryz.prog.funcNamed "certpath/certpathlaw30.StepEnters" = some 3 by kernel_rfl).symm.trans hf) |>.symm
   obtain rfl : fn = Tryz.f3 := (Option.some.inj (Tryz.func3.symm.trans hfn)).symm
   exact ⟨by kernel_rfl, fun j t ht => by
    rw [Tryz.params3] at ht
    have hm : t ∈ [22, 3, 4] := by simpa using Array.mem_of_getElem? ht
    have hall : ([22, 3, 4].all fun u => !Tryz.prog.wantsStandIn u) = true := by kernel_rfl
    exact (show Tryz.prog.wantsStandIn t = false by simpa using List.all_eq_true.1 hall t hm)⟩)
  (by kernel_rfl)
#print axioms stepEnters_holds
end Go.Proofs.YtjlnoogcggdhkaaGreatDoor
