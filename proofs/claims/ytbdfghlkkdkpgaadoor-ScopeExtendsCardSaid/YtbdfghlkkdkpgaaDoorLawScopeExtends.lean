/-
  THE LAW ScopeExtends: the statement, from its contract.
  Conditions: none.
-/
import Derived.Test.YtbdfghlkkdkpgaaDoorP15
import Derived.Test.YtbdfghlkkdkpgaaDoorVs30
import Derived.Test.YtbdfghlkkdkpgaaDoorTie
import Derived.Test.YtbdfghlkkdkpgaaDoorCards
import Derived.ProofKit
import Derived.OpenShut
import Derived.LaidMore
import Derived.Lay
import Derived.SevenTiedAt
import Derived.Stop.Joined
namespace Go.Proofs.YtbdfghlkkdkpgaaDoor
open Go.VS
theorem scopeExtends_lifted (os : Os) (started : os.Started) (H : Type) (enc : TypeId × Value → H) :
    ReturnsInHanded {} Tryd.checked os 7 .any (fun w args => (Rows.scopeExtendsSpec.pre enc Tryd.prog Tryd.f7 Rows.scopeExtendsRow.domain false w args ∧ laidMetH Tryd.prog Rows.scopeExtendsRow.laid w) ∧ sizedMet enc Tryd.prog Tryd.f7 (OpenSpec.ofChange Rows.scopeExtendsSpec) false w args)
      (Rows.scopeExtendsSpec.post enc Tryd.prog Tryd.f7 false true false false) := by
  refine law_laid (C := Tryd.checked) (K := 8) (tb := 4) (laid := Rows.scopeExtendsRow.laid) (by kernel_rfl) (by kernel_rfl) (by kernel_rfl) Tryd.func7 rfl ?_ (by kernel_rfl) (by kernel_rfl) (by kernel_rfl)
    (fun W h => gok_shaped (g := 0) (t := 3) (zero := #[.int .i64 0]) h (by kernel_rfl) (show 0 < Tryd.prog.globals.size by decide +kernel) (by kernel_rfl) rfl (by kernel_rfl) (by kernel_rfl) (by kernel_rfl)) scopeExtends_fits os started H enc
    (ChangeSpec.witness_shaped (enc := enc) (C := Tryd.checked) (os := os) (X := fun w _ => laidMetH Tryd.prog Rows.scopeExtendsRow.laid w) false (World.laidAll Tryd.prog os Rows.scopeExtendsRow.laid) #[.slice none 0 0, .bool false] 8 (World.laidAll_os _ _ _)
      (World.shaped_of_ZipB (by kernel_rfl) (by kernel_rfl)) (by kernel_rfl) (by kernel_rfl) (by kernel_rfl)
      (by rw [MakeChecks.laidMetH_plain _ _ _ (by kernel_rfl)]; exact laidMet_laidAll _ (by kernel_rfl) (by kernel_rfl)))
  intro H ds hl
  have hl : ds.length = 2 := hl
  match ds, hl with
  | [d0, d1], _ => rfl

theorem scopeExtends_row_holds : Rows.ScopeExtendsSaid :=
  OpenClaim.holds_of_wide 7 Tryd.f7 rfl rfl rfl rfl rfl rfl rfl ⟨rfl, rfl, rfl, rfl, rfl⟩ rfl rfl rfl rfl rfl (by kernel_rfl) Tryd.func7 (by kernel_rfl)
    (of_decide_eq_true (by kernel_rfl)) (by unfold Func.isWrapper; first | (rw [if_pos (by decide +kernel)]; kernel_rfl) | (rw [if_neg (by decide +kernel)]; exact ⟨rfl, rfl⟩))
    (fun os started H enc _ => scopeExtends_lifted os started H enc)
theorem scopeExtends_holds : Rows.ScopeExtendsCardSaid :=
  Claim7.holds_tied_plain_at .later [] [.data, .pinned] true (true, "87e32c66cb7275cbe66de5f4483cde3ffed96674849f9af50df0e95a88e0e3dd") false scopeExtends_row_holds (fun _ h => by cases h) (by kernel_rfl) (fun _ h => by cases h) scopeExtends_row_tie rfl ⟨rfl, rfl⟩ (by kernel_rfl) rfl
    (fun f fn hf hfn => by
      obtain rfl : f = 7 := Option.some.inj ((show Tryd.prog.funcNamed "certpath/certpathlaw27.ScopeExtends" = some 7 by kernel_rfl).symm.trans hf) |>.symm
      obtain rfl : fn = Tryd.f7 := (Option.some.inj (Tryd.func7.symm.trans hfn)).symm
      exact ⟨by kernel_rfl, fun j t ht => by
        rw [Tryd.params7] at ht
        have hm : t ∈ [22, 4] := by simpa using Array.mem_of_getElem? ht
        have hall : ([22, 4].all fun u => !Tryd.prog.wantsStandIn u) = true := by kernel_rfl
        exact (show Tryd.prog.wantsStandIn t = false by simpa using List.all_eq_true.1 hall t hm)⟩)
    (by kernel_rfl)
#print axioms scopeExtends_holds
end Go.Proofs.YtbdfghlkkdkpgaaDoor
