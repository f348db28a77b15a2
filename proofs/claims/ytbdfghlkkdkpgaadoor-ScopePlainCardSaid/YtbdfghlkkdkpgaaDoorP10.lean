/-
  SCOPE: certificates and lists from a deck.
  Conditions: none.
-/
import Derived.Test.YtbdfghlkkdkpgaaDoorGe
import Derived.Test.YtbdfghlkkdkpgaaDoorGf
import Derived.Test.YtbdfghlkkdkpgaaDoorP1
import Derived.Test.YtbdfghlkkdkpgaaDoorP2
import Derived.Test.YtbdfghlkkdkpgaaDoorP3
import Derived.Test.YtbdfghlkkdkpgaaDoorP4
import Derived.Test.YtbdfghlkkdkpgaaDoorGj
import Derived.Test.YtbdfghlkkdkpgaaDoorGl
import Derived.Test.YtbdfghlkkdkpgaaDoorQ6
import Derived.Test.YtbdfghlkkdkpgaaDoorQ16
import Derived.Test.YtbdfghlkkdkpgaaDoorQ17
import Derived.Test.YtbdfghlkkdkpgaaDoorQ18
import Derived.Test.YtbdfghlkkdkpgaaDoorQ25
import Derived.Test.YtbdfghlkkdkpgaaDoorQ26
import Derived.Test.YtbdfghlkkdkpgaaDoorQ27
import Derived.Test.YtbdfghlkkdkpgaaDoorQ28
import Derived.Test.YtbdfghlkkdkpgaaDoorTab
import Derived.Test.YtbdfghlkkdkpgaaDoorGd
import Derived.Test.YtbdfghlkkdkpgaaDoorGi
import Derived.Test.YtbdfghlkkdkpgaaDoorVs33
import Derived.Test.YtbdfghlkkdkpgaaDoorVs34
import Derived.Test.YtbdfghlkkdkpgaaDoorVs35
import Derived.Test.YtbdfghlkkdkpgaaDoorVs36
set_option linter.all false
namespace Go.Stp
open Go.VS
theorem authN_w (k : Nat) : WN (authN k) := by
  unfold WN authN authV
  by_cases h : k % 2 = 1 <;> by_cases h8 : 8 ≤ k % 16 <;> simp [h, h8]
theorem placeL_len : ∀ p ∈ placeL, p.length ≤ 20 := by decide
theorem place_wgk (k : Int) : WGk (placeG k) := by
  refine ⟨.inl rfl, ?_, by simp [placeG, WN]⟩
  show (placeL.getD k.toNat []).length ≤ 65536
  rw [List.getD_eq_getElem?_getD]
  cases h : placeL[k.toNat]? with
  | none => simp
  | some x =>
    have := placeL_len x (List.mem_of_getElem? h)
    simp only [Option.getD_some]
    omega
theorem WPt.k {p : Pt} (h : WPt p) : WPk p := by
  have hn : ∀ x ∈ p.names, WGk x := fun x hx => by
    rcases h.names with e | ⟨k, -, -, e⟩
    · rw [e] at hx; simp at hx
    · rw [e] at hx; simp at hx; subst hx; exact place_wgk k
  refine ⟨hn, ?_, ?_⟩
  · rcases h.names with e | ⟨k, -, -, e⟩ <;> simp [e]
  · rcases h.issuer with ⟨-, e, -⟩ | ⟨-, j, -, -, e⟩
    · rw [e]; simp [WN]
    · rw [e]; exact authN_w _
end Go.Stp
namespace Go.Proofs.YtbdfghlkkdkpgaaDoor
open Go.VS Go.Stp
set_option linter.all false
set_option maxRecDepth 100000
set_option maxHeartbeats 16000000
attribute [local irreducible] arun arunD arunU AWp aend
end Go.Proofs.YtbdfghlkkdkpgaaDoor

