/-
 THE LAW StatusPartitions: the statement, from its contract.
 Conditions: none.
-/
import Derived.Test.YtnpndfmbkmbhbaaGreatDoorE21
import Derived.Test.YtnpndfmbkmbhbaaGreatDoorTie
import Derived.Test.YtnpndfmbkmbhbaaGreatDoorCards
import Derived.LaidMore
import Derived.Lay
import Derived.SevenTiedAt
import Derived.Stop.Joined
namespace Go.Proofs.YtnpndfmbkmbhbaaGreatDoor
open Go.VS
theorem statusPartitions_lifted (os : Os) (started : os.Started) (H : Type) (enc : TypeId × Value → H) :
  ReturnsInHanded {} Tryz.checked os 7 .any (fun w args => (Rows.statusPartitionsSpec.pre enc Tryz.prog Tryz.f7 Rows.statusPartitionsRow.domain false w args ∧ laidMetH Tryz.prog Rows.statusPartitionsRow.laid w) ∧ sizedMet enc Tryz.prog Tryz.f7 (OpenSpec.ofChange Rows.statusPartitionsSpec) false w args)
   (Rows.statusPartitionsSpec.post enc Tryz.prog Tryz.f7 false true false false) := by
 refine law_laid (C := Tryz.checked) (K := 8) (tb := 4) (laid := Rows.statusPartitionsRow.laid) (by kernel_rfl) (by kernel_rfl) (by kernel_rfl) Tryz.func7 rfl ?_ (by kernel_rfl) (by kernel_rfl) (by kernel_rfl)
  (fun W h => gok_shaped (g := 0) (t := 3) (zero := #[.int .i64 0]) h (by kernel_rfl) (show 0 < Tryz.prog.globals.size by decide +kernel) (by kernel_rfl) rfl (by kernel_rfl) (by kernel_rfl) (by kernel_rfl)) part_fits os started H enc
  (ChangeSpec.witness_shaped (enc := enc) (C := Tryz.checked) (os := os) (X := fun w _ => laidMetH Tryz.prog Rows.statusPartitionsRow.laid w) false (World.laidAll Tryz.prog os Rows.statusPartitionsRow.laid) #[.int .i64 0, .bool false, .bool false, .bool false] 8 (World.laidAll_os _ _ _)
   (World.shaped_of_ZipB (by kernel_rfl) (by kernel_rfl)) (by kernel_rfl) (by kernel_rfl) (by kernel_rfl)
   (by rw [MakeChecks.laidMetH_plain _ _ _ (by kernel_rfl)]; exact laidMet_laidAll _ (by kernel_rfl) (by kernel_rfl)))
 intro H ds hl
 have hl : ds.length = 4 := hl
 match ds, hl with
 | [d0, d1, d2, d3], _ => rfl

theorem statusPartitions_row_holds : Rows.StatusPartitionsSaid :=
 OpenClaim.holds_of_wide 7 Tryz.f7 rfl rfl rfl rfl rfl rfl rfl ⟨rfl, rfl, rfl, rfl, rfl⟩ rfl rfl rfl rfl rfl (by kernel_rfl) Tryz.func7 (by kernel_rfl)
  (of_decide_eq_true (by kernel_rfl)) (by unfold Func.isWrapper; first | (rw [if_pos (by decide +kernel)]; kernel_rfl) | (rw [if_neg (by decide +kernel)]; exact ⟨rfl, rfl⟩))
  (fun os started H enc _ => statusPartitions_lifted os started H enc)
theorem statusPartitions_holds : Rows.StatusPartitionsCardSaid :=
 Claim7.holds_tied_plain_at .later [] [.data, .pinned] true (true, "2170fa740cbfec426085958824b6f7a5cb22f3113ed7ba25fdb0d134d146fb31") false statusPartitions_row_holds (fun _ h => by cases h) (by kernel_rfl) (fun _ h => by cases h) statusPartitions_row_tie rfl ⟨rfl, rfl⟩ (by kernel_rfl) rfl
  (fun f fn hf hfn => by
   obtain rfl : f = 7 := Option.some.inj ((show Tryz.prog.funcNamed "certpath/certpathlaw28.StatusPartitions" = some 7 by kernel_rfl).symm.trans hf) |>.symm
   obtain rfl : fn = Tryz.f7 := (Option.some.inj (Tryz.func7.symm.trans hfn)).symm
   exact ⟨by kernel_rfl, fun j t ht => by
    rw [Tryz.params7] at ht
    have hm : t ∈ [3, 4, 4, 4] := by simpa using Array.mem_of_getElem? ht
    have hall : ([3, 4, 4, 4].all fun u => !Tryz.prog.wantsStandIn u) = true := by kernel_rfl
    exact (show Tryz.prog.wantsStandIn t = false by simpa using List.all_eq_true.1 hall t hm)⟩)
  (by kernel_rfl)
#print axioms statusPartitions_holds
end Go.Proofs.YtnpndfmbkmbhbaaGreatDoor
