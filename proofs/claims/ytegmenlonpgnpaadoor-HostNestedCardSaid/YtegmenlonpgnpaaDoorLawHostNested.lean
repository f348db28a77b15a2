/-
  THE LAW HostNested: the statement, from its contract.
  Conditions: none.
-/
import Derived.Test.YtegmenlonpgnpaaDoorH29
import Derived.Test.YtegmenlonpgnpaaDoorVs30
import Derived.Test.YtegmenlonpgnpaaDoorTie
import Derived.Test.YtegmenlonpgnpaaDoorCards
import Derived.ProofKit
import Derived.OpenShut
import Derived.LaidMore
import Derived.Lay
import Derived.SevenTiedAt
import Derived.Stop.Joined
namespace Go.Proofs.YtegmenlonpgnpaaDoor
open Go.VS
theorem hostNested_lifted (os : Os) (started : os.Started) (H : Type) (enc : TypeId × Value → H) :
    ReturnsInHanded {} Tryd.checked os 9 .any (fun w args => (Rows.hostNestedSpec.pre enc Tryd.prog Tryd.f9 Rows.hostNestedRow.domain false w args ∧ laidMetH Tryd.prog Rows.hostNestedRow.laid w) ∧ sizedMet enc Tryd.prog Tryd.f9 (OpenSpec.ofChange Rows.hostNestedSpec) false w args)
      (Rows.hostNestedSpec.post enc Tryd.prog Tryd.f9 false true false false) := by
  refine law_laid (C := Tryd.checked) (K := 8) (tb := 4) (laid := Rows.hostNestedRow.laid) (by kernel_rfl) (by kernel_rfl) (by kernel_rfl) Tryd.func9 rfl ?_ (by kernel_rfl) (by kernel_rfl) (by kernel_rfl)
    (fun W h => gok_shaped (g := 0) (t := 3) (zero := #[.int .i64 0]) h (by kernel_rfl) (show 0 < Tryd.prog.globals.size by decide +kernel) (by kernel_rfl) rfl (by kernel_rfl) (by kernel_rfl) (by kernel_rfl)) hostNested_fits os started H enc
    (ChangeSpec.witness_shaped (enc := enc) (C := Tryd.checked) (os := os) (X := fun w _ => laidMetH Tryd.prog Rows.hostNestedRow.laid w) false (World.laidAll Tryd.prog os Rows.hostNestedRow.laid) #[.slice none 0 0, .slice none 0 0, .slice none 0 0, .slice none 0 0, .slice none 0 0, .int .u8 0, .int .u8 0] 8 (World.laidAll_os _ _ _)
      (World.shaped_of_ZipB (by kernel_rfl) (by kernel_rfl)) (by kernel_rfl) (by kernel_rfl) (by kernel_rfl)
      (by rw [MakeChecks.laidMetH_plain _ _ _ (by kernel_rfl)]; exact laidMet_laidAll _ (by kernel_rfl) (by kernel_rfl)))
  intro H ds hl
  have hl : ds.length = 7 := hl
  match ds, hl with
  | [d0, d1, d2, d3, d4, d5, d6], _ => rfl

theorem hostNested_row_holds : Rows.HostNestedSaid :=
  OpenClaim.holds_of_wide 9 Tryd.f9 rfl rfl rfl rfl rfl rfl rfl ⟨rfl, rfl, rfl, rfl, rfl⟩ rfl rfl rfl rfl rfl (by kernel_rfl) Tryd.func9 (by kernel_rfl)
    (of_decide_eq_true (by kernel_rfl)) (by unfold Func.isWrapper; first | (rw [if_pos (by decide +kernel)]; kernel_rfl) | (rw [if_neg (by decide +kernel)]; exact ⟨rfl, rfl⟩))
    (fun os started H enc _ => hostNested_lifted os started H enc)
theorem hostNested_holds : Rows.HostNestedCardSaid :=
  Claim7.holds_tied_plain_at .later [] [.data, .pinned] true (true, "c6f61250aa8d1b3998b78a63b2be5c13d37c9ad0a878b26525ad1e4599f18700") false hostNested_row_holds (fun _ h => by cases h) (by kernel_rfl) (fun _ h => by cases h) hostNested_row_tie rfl ⟨rfl, rfl⟩ (by kernel_rfl) rfl
    (fun f fn hf hfn => by
      obtain rfl : f = 9 := Option.some.inj ((show Tryd.prog.funcNamed "certpath/certpathlaw08.HostNested" = some 9 by kernel_rfl).symm.trans hf) |>.symm
      obtain rfl : fn = Tryd.f9 := (Option.some.inj (Tryd.func9.symm.trans hfn)).symm
      exact ⟨by kernel_rfl, fun j t ht => by
        rw [Tryd.params9] at ht
        have hm : t ∈ [22, 22, 22, 22, 22, 5, 5] := by simpa using Array.mem_of_getElem? ht
        have hall : ([22, 22, 22, 22, 22, 5, 5].all fun u => !Tryd.prog.wantsStandIn u) = true := by kernel_rfl
        exact (show Tryd.prog.wantsStandIn t = false by simpa using List.all_eq_true.1 hall t hm)⟩)
    (by kernel_rfl)
#print axioms hostNested_holds
end Go.Proofs.YtegmenlonpgnpaaDoor
