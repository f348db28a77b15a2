/-
  THE LAW HostAddress: the statement, from its contract.
  Conditions: none.
-/
import Derived.Test.YtegmenlonpgnpaaDoorH32
import Derived.Test.YtegmenlonpgnpaaDoorVs30
import Derived.Test.YtegmenlonpgnpaaDoorTie
import Derived.Test.YtegmenlonpgnpaaDoorCards
import Derived.ProofKit
import Derived.OpenShut
import Derived.LaidMore
import Derived.Lay
import Derived.SevenTiedAt
import Derived.Stop.Joined
namespace Go.Proofs.YtegmenlonpgnpaaDoor
open Go.VS
theorem hostAddress_lifted (os : Os) (started : os.Started) (H : Type) (enc : TypeId × Value → H) :
    ReturnsInHanded {} Tryd.checked os 8 .any (fun w args => (Rows.hostAddressSpec.pre enc Tryd.prog Tryd.f8 Rows.hostAddressRow.domain false w args ∧ laidMetH Tryd.prog Rows.hostAddressRow.laid w) ∧ sizedMet enc Tryd.prog Tryd.f8 (OpenSpec.ofChange Rows.hostAddressSpec) false w args)
      (Rows.hostAddressSpec.post enc Tryd.prog Tryd.f8 false true false false) := by
  refine law_laid (C := Tryd.checked) (K := 8) (tb := 4) (laid := Rows.hostAddressRow.laid) (by kernel_rfl) (by kernel_rfl) (by kernel_rfl) Tryd.func8 rfl ?_ (by kernel_rfl) (by kernel_rfl) (by kernel_rfl)
    (fun W h => gok_shaped (g := 0) (t := 3) (zero := #[.int .i64 0]) h (by kernel_rfl) (show 0 < Tryd.prog.globals.size by decide +kernel) (by kernel_rfl) rfl (by kernel_rfl) (by kernel_rfl) (by kernel_rfl)) hostAddress_fits os started H enc
    (ChangeSpec.witness_shaped (enc := enc) (C := Tryd.checked) (os := os) (X := fun w _ => laidMetH Tryd.prog Rows.hostAddressRow.laid w) false (World.laidAll Tryd.prog os Rows.hostAddressRow.laid) #[.string ⟨#[]⟩, .string ⟨#[]⟩, .slice none 0 0, .slice none 0 0, .int .u8 0, .int .u8 0, .bool false] 8 (World.laidAll_os _ _ _)
      (World.shaped_of_ZipB (by kernel_rfl) (by kernel_rfl)) (by kernel_rfl) (by kernel_rfl) (by kernel_rfl)
      (by rw [MakeChecks.laidMetH_plain _ _ _ (by kernel_rfl)]; exact laidMet_laidAll _ (by kernel_rfl) (by kernel_rfl)))
  intro H ds hl
  have hl : ds.length = 7 := hl
  match ds, hl with
  | [d0, d1, d2, d3, d4, d5, d6], _ => rfl

theorem hostAddress_row_holds : Rows.HostAddressSaid :=
  OpenClaim.holds_of_wide 8 Tryd.f8 rfl rfl rfl rfl rfl rfl rfl ⟨rfl, rfl, rfl, rfl, rfl⟩ rfl rfl rfl rfl rfl (by kernel_rfl) Tryd.func8 (by kernel_rfl)
    (of_decide_eq_true (by kernel_rfl)) (by unfold Func.isWrapper; first | (rw [if_pos (by decide +kernel)]; kernel_rfl) | (rw [if_neg (by decide +kernel)]; exact ⟨rfl, rfl⟩))
    (fun os started H enc _ => hostAddress_lifted os started H enc)
theorem hostAddress_holds : Rows.HostAddressCardSaid :=
  Claim7.holds_tied_plain_at .later [] [.data, .pinned] true (true, "c6f61250aa8d1b3998b78a63b2be5c13d37c9ad0a878b26525ad1e4599f18700") false hostAddress_row_holds (fun _ h => by cases h) (by kernel_rfl) (fun _ h => by cases h) hostAddress_row_tie rfl ⟨rfl, rfl⟩ (by kernel_rfl) rfl
    (fun f fn hf hfn => by
      obtain rfl : f = 8 := Option.some.inj ((show Tryd.prog.funcNamed "certpath/certpathlaw08.HostAddress" = some 8 by kernel_rfl).symm.trans hf) |>.symm
      obtain rfl : fn = Tryd.f8 := (Option.some.inj (Tryd.func8.symm.trans hfn)).symm
      exact ⟨by kernel_rfl, fun j t ht => by
        rw [Tryd.params8] at ht
        have hm : t ∈ [9, 9, 22, 22, 5, 5, 4] := by simpa using Array.mem_of_getElem? ht
        have hall : ([9, 9, 22, 22, 5, 5, 4].all fun u => !Tryd.prog.wantsStandIn u) = true := by kernel_rfl
        exact (show Tryd.prog.wantsStandIn t = false by simpa using List.all_eq_true.1 hall t hm)⟩)
    (by kernel_rfl)
#print axioms hostAddress_holds
end Go.Proofs.YtegmenlonpgnpaaDoor
