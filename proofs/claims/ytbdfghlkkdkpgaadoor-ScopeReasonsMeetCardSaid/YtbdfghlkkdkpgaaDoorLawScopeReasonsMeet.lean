/-
  THE LAW ScopeReasonsMeet: the statement, from its contract.
  Conditions: none.
-/
import Derived.Test.YtbdfghlkkdkpgaaDoorP16
import Derived.Test.YtbdfghlkkdkpgaaDoorVs30
import Derived.Test.YtbdfghlkkdkpgaaDoorTie
import Derived.Test.YtbdfghlkkdkpgaaDoorCards
import Derived.ProofKit
import Derived.OpenShut
import Derived.LaidMore
import Derived.Lay
import Derived.SevenTiedAt
import Derived.Stop.Joined
namespace Go.Proofs.YtbdfghlkkdkpgaaDoor
open Go.VS
theorem scopeReasonsMeet_lifted (os : Os) (started : os.Started) (H : Type) (enc : TypeId × Value → H) :
    ReturnsInHanded {} Tryd.checked os 6 .any (fun w args => (Rows.scopeReasonsMeetSpec.pre enc Tryd.prog Tryd.f6 Rows.scopeReasonsMeetRow.domain false w args ∧ laidMetH Tryd.prog Rows.scopeReasonsMeetRow.laid w) ∧ sizedMet enc Tryd.prog Tryd.f6 (OpenSpec.ofChange Rows.scopeReasonsMeetSpec) false w args)
      (Rows.scopeReasonsMeetSpec.post enc Tryd.prog Tryd.f6 false true false false) := by
  refine law_laid (C := Tryd.checked) (K := 8) (tb := 4) (laid := Rows.scopeReasonsMeetRow.laid) (by kernel_rfl) (by kernel_rfl) (by kernel_rfl) Tryd.func6 rfl ?_ (by kernel_rfl) (by kernel_rfl) (by kernel_rfl)
    (fun W h => gok_shaped (g := 0) (t := 3) (zero := #[.int .i64 0]) h (by kernel_rfl) (show 0 < Tryd.prog.globals.size by decide +kernel) (by kernel_rfl) rfl (by kernel_rfl) (by kernel_rfl) (by kernel_rfl)) scopeReasonsMeet_fits os started H enc
    (ChangeSpec.witness_shaped (enc := enc) (C := Tryd.checked) (os := os) (X := fun w _ => laidMetH Tryd.prog Rows.scopeReasonsMeetRow.laid w) false (World.laidAll Tryd.prog os Rows.scopeReasonsMeetRow.laid) #[.int .i64 0] 8 (World.laidAll_os _ _ _)
      (World.shaped_of_ZipB (by kernel_rfl) (by kernel_rfl)) (by kernel_rfl) (by kernel_rfl) (by kernel_rfl)
      (by rw [MakeChecks.laidMetH_plain _ _ _ (by kernel_rfl)]; exact laidMet_laidAll _ (by kernel_rfl) (by kernel_rfl)))
  intro H ds hl
  have hl : ds.length = 1 := hl
  match ds, hl with
  | [d0], _ => rfl

theorem scopeReasonsMeet_row_holds : Rows.ScopeReasonsMeetSaid :=
  OpenClaim.holds_of_wide 6 Tryd.f6 rfl rfl rfl rfl rfl rfl rfl ⟨rfl, rfl, rfl, rfl, rfl⟩ rfl rfl rfl rfl rfl (by kernel_rfl) Tryd.func6 (by kernel_rfl)
    (of_decide_eq_true (by kernel_rfl)) (by unfold Func.isWrapper; first | (rw [if_pos (by decide +kernel)]; kernel_rfl) | (rw [if_neg (by decide +kernel)]; exact ⟨rfl, rfl⟩))
    (fun os started H enc _ => scopeReasonsMeet_lifted os started H enc)
theorem scopeReasonsMeet_holds : Rows.ScopeReasonsMeetCardSaid :=
  Claim7.holds_tied_plain_at .later [] [.data, .pinned] true (true, "87e32c66cb7275cbe66de5f4483cde3ffed96674849f9af50df0e95a88e0e3dd") false scopeReasonsMeet_row_holds (fun _ h => by cases h) (by kernel_rfl) (fun _ h => by cases h) scopeReasonsMeet_row_tie rfl ⟨rfl, rfl⟩ (by kernel_rfl) rfl
    (fun f fn hf hfn => by
      obtain rfl : f = 6 := Option.some.inj ((show Tryd.prog.funcNamed "certpath/certpathlaw27.ScopeReasonsMeet" = some 6 by kernel_rfl).symm.trans hf) |>.symm
      obtain rfl : fn = Tryd.f6 := (Option.some.inj (Tryd.func6.symm.trans hfn)).symm
      exact ⟨by kernel_rfl, fun j t ht => by
        rw [Tryd.params6] at ht
        have hm : t ∈ [3] := by simpa using Array.mem_of_getElem? ht
        have hall : ([3].all fun u => !Tryd.prog.wantsStandIn u) = true := by kernel_rfl
        exact (show Tryd.prog.wantsStandIn t = false by simpa using List.all_eq_true.1 hall t hm)⟩)
    (by kernel_rfl)
#print axioms scopeReasonsMeet_holds
end Go.Proofs.YtbdfghlkkdkpgaaDoor
