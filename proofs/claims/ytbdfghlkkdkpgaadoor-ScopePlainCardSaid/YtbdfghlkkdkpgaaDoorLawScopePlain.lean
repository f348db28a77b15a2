/-
  THE LAW ScopePlain: the statement, from its contract.
  Conditions: none.
-/
import Derived.Test.YtbdfghlkkdkpgaaDoorP16
import Derived.Test.YtbdfghlkkdkpgaaDoorVs30
import Derived.Test.YtbdfghlkkdkpgaaDoorTie
import Derived.Test.YtbdfghlkkdkpgaaDoorCards
import Derived.ProofKit
import Derived.OpenShut
import Derived.LaidMore
import Derived.Lay
import Derived.SevenTiedAt
import Derived.Stop.Joined
namespace Go.Proofs.YtbdfghlkkdkpgaaDoor
open Go.VS
theorem scopePlain_lifted (os : Os) (started : os.Started) (H : Type) (enc : TypeId × Value → H) :
    ReturnsInHanded {} Tryd.checked os 5 .any (fun w args => (Rows.scopePlainSpec.pre enc Tryd.prog Tryd.f5 Rows.scopePlainRow.domain false w args ∧ laidMetH Tryd.prog Rows.scopePlainRow.laid w) ∧ sizedMet enc Tryd.prog Tryd.f5 (OpenSpec.ofChange Rows.scopePlainSpec) false w args)
      (Rows.scopePlainSpec.post enc Tryd.prog Tryd.f5 false true false false) := by
  refine law_laid (C := Tryd.checked) (K := 8) (tb := 4) (laid := Rows.scopePlainRow.laid) (by kernel_rfl) (by kernel_rfl) (by kernel_rfl) Tryd.func5 rfl ?_ (by kernel_rfl) (by kernel_rfl) (by kernel_rfl)
    (fun W h => gok_shaped (g := 0) (t := 3) (zero := #[.int .i64 0]) h (by kernel_rfl) (show 0 < Tryd.prog.globals.size by decide +kernel) (by kernel_rfl) rfl (by kernel_rfl) (by kernel_rfl) (by kernel_rfl)) scopePlain_fits os started H enc
    (ChangeSpec.witness_shaped (enc := enc) (C := Tryd.checked) (os := os) (X := fun w _ => laidMetH Tryd.prog Rows.scopePlainRow.laid w) false (World.laidAll Tryd.prog os Rows.scopePlainRow.laid) #[.slice none 0 0, .bool false] 8 (World.laidAll_os _ _ _)
      (World.shaped_of_ZipB (by kernel_rfl) (by kernel_rfl)) (by kernel_rfl) (by kernel_rfl) (by kernel_rfl)
      (by rw [MakeChecks.laidMetH_plain _ _ _ (by kernel_rfl)]; exact laidMet_laidAll _ (by kernel_rfl) (by kernel_rfl)))
  intro H ds hl
  have hl : ds.length = 2 := hl
  match ds, hl with
  | [d0, d1], _ => rfl

theorem scopePlain_row_holds : Rows.ScopePlainSaid :=
  OpenClaim.holds_of_wide 5 Tryd.f5 rfl rfl rfl rfl rfl rfl rfl ⟨rfl, rfl, rfl, rfl, rfl⟩ rfl rfl rfl rfl rfl (by kernel_rfl) Tryd.func5 (by kernel_rfl)
    (of_decide_eq_true (by kernel_rfl)) (by unfold Func.isWrapper; first | (rw [if_pos (by decide +kernel)]; kernel_rfl) | (rw [if_neg (by decide +kernel)]; exact ⟨rfl, rfl⟩))
    (fun os started H enc _ => scopePlain_lifted os started H enc)
theorem scopePlain_holds : Rows.ScopePlainCardSaid :=
  Claim7.holds_tied_plain_at .later [] [.data, .pinned] true (true, "87e32c66cb7275cbe66de5f4483cde3ffed96674849f9af50df0e95a88e0e3dd") false scopePlain_row_holds (fun _ h => by cases h) (by kernel_rfl) (fun _ h => by cases h) scopePlain_row_tie rfl ⟨rfl, rfl⟩ (by kernel_rfl) rfl
    (fun f fn hf hfn => by
      obtain rfl : f = 5 := Option.some.inj ((show Tryd.prog.funcNamed "certpath/certpathlaw27.ScopePlain" = some 5 by kernel_rfl).symm.trans hf) |>.symm
      obtain rfl : fn = Tryd.f5 := (Option.some.inj (Tryd.func5.symm.trans hfn)).symm
      exact ⟨by kernel_rfl, fun j t ht => by
        rw [Tryd.params5] at ht
        have hm : t ∈ [22, 4] := by simpa using Array.mem_of_getElem? ht
        have hall : ([22, 4].all fun u => !Tryd.prog.wantsStandIn u) = true := by kernel_rfl
        exact (show Tryd.prog.wantsStandIn t = false by simpa using List.all_eq_true.1 hall t hm)⟩)
    (by kernel_rfl)
#print axioms scopePlain_holds
end Go.Proofs.YtbdfghlkkdkpgaaDoor
