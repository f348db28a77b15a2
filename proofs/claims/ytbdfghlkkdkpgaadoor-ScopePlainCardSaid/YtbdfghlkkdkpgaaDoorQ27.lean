/-
  STEP: distribution points from a deck.
  Conditions: none.
-/
import Derived.Test.YtbdfghlkkdkpgaaDoorGe
import Derived.Test.YtbdfghlkkdkpgaaDoorGf
import Derived.Test.YtbdfghlkkdkpgaaDoorGj
import Derived.Test.YtbdfghlkkdkpgaaDoorGl
import Derived.Test.YtbdfghlkkdkpgaaDoorQ16
import Derived.Test.YtbdfghlkkdkpgaaDoorQ17
import Derived.Test.YtbdfghlkkdkpgaaDoorQ18
import Derived.Test.YtbdfghlkkdkpgaaDoorQ25
import Derived.Test.YtbdfghlkkdkpgaaDoorQ26
import Derived.Test.YtbdfghlkkdkpgaaDoorTab
import Derived.Test.YtbdfghlkkdkpgaaDoorGd
import Derived.Test.YtbdfghlkkdkpgaaDoorGi
import Derived.Test.YtbdfghlkkdkpgaaDoorVs33
import Derived.Test.YtbdfghlkkdkpgaaDoorVs34
import Derived.Test.YtbdfghlkkdkpgaaDoorVs35
set_option linter.all false
namespace Go.Stp
open Go.VS
theorem ptc_len (p : Pt) : p.c.length = 4 := rfl
theorem ptc_one (p : Pt) : ∀ x ∈ p.c, x.one = true := fun x hx => by
  simp [Pt.c] at hx
  rcases hx with rfl | rfl | rfl | rfl <;> rfl
@[simp] theorem pts_pures (l : List Pt) : Pures (l.flatMap Pt.c) := flat_pures (fun m => by simp [Pt.c]) l
theorem pts_len (l : List Pt) : (l.flatMap Pt.c).length = l.length * 4 := flat_len ptc_len l
theorem dk_nz (l : List Int) (a : Nat) : (Go.Proofs.YtbdfghlkkdkpgaaDoor.dk l a).map nz = Go.Proofs.YtbdfghlkkdkpgaaDoor.dk l a := rfl
def placeL : List (List UInt8) := [[97, 46, 101, 120, 97, 109, 112, 108, 101, 46, 111, 114, 103], [65, 46, 69, 120, 97, 109, 112, 108, 101, 46, 111, 114, 103], [98, 46, 101, 120, 97, 109, 112, 108, 101, 46, 111, 114, 103]]
def placeG (k : Int) : Gn := ⟨2, placeL.getD k.toNat [], []⟩
/-- What is known of a point that was made. -/
structure WPt (p : Pt) : Prop where
  names : p.names = [] ∨ ∃ k, 0 ≤ k ∧ k < 3 ∧ p.names = [placeG k]
  issuer : (p.has = false ∧ p.issuer = [] ∧ p.names ≠ []) ∨ (p.has = true ∧ ∃ j, 0 ≤ j ∧ j < 4 ∧ p.issuer = authN (namedN (Int.toNat j)))
  reasons : p.reasons = 0 ∨ p.reasons = 2 ∨ p.reasons = 510 ∨ p.reasons = 508
end Go.Stp
namespace Go.Proofs.YtbdfghlkkdkpgaaDoor
open Go.VS Go.Stp
set_option linter.all false
set_option maxRecDepth 100000
set_option maxHeartbeats 8000000
attribute [local irreducible] arun arunD arunU AWp aend
end Go.Proofs.YtbdfghlkkdkpgaaDoor

