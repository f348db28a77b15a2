/-
  STEP: the fields of a certificate from a deck.
  Conditions: none.
-/
import Derived.Test.YtbdfghlkkdkpgaaDoorGe
import Derived.Test.YtbdfghlkkdkpgaaDoorGf
import Derived.Test.YtbdfghlkkdkpgaaDoorGj
import Derived.Test.YtbdfghlkkdkpgaaDoorGl
import Derived.Test.YtbdfghlkkdkpgaaDoorQ25
import Derived.Test.YtbdfghlkkdkpgaaDoorQ26
import Derived.Test.YtbdfghlkkdkpgaaDoorQ27
import Derived.Test.YtbdfghlkkdkpgaaDoorQ28
import Derived.Test.YtbdfghlkkdkpgaaDoorTab
import Derived.Test.YtbdfghlkkdkpgaaDoorGd
import Derived.Test.YtbdfghlkkdkpgaaDoorGi
import Derived.Test.YtbdfghlkkdkpgaaDoorVs33
import Derived.Test.YtbdfghlkkdkpgaaDoorVs34
import Derived.Test.YtbdfghlkkdkpgaaDoorVs35
import Derived.Test.YtbdfghlkkdkpgaaDoorVs36
set_option linter.all false
namespace Go.Stp
open Go.VS Go.Proofs.YtbdfghlkkdkpgaaDoor
theorem ares_cell {P : Program} {s : List V} {rows : List Row} {rs : List ResultVar} {k : V → Prop} {a : Nat} {t : TypeId} {cs : List V} (id off n : Nat) (hrs : rs = [.cell a t]) (ha : sget s a = .ref id off) (hrow : rows[id]? = some (.live cs)) (hne : cs ≠ []) (hu : uagg P t = some true) (hn : usz P t = some n) (hle : off + n ≤ cs.length) (h : k (.agg ((cs.drop off).take n))) : ares P s rows rs k := by
  subst hrs
  simp only [ares, aresL, ares1, ha, aload, acells, hu]
  exact ⟨cs, hrow, hne, n, hn, hle, h⟩
end Go.Stp
namespace Go.Proofs.YtbdfghlkkdkpgaaDoor
open Go.VS Go.Stp
set_option linter.all false
set_option maxRecDepth 100000
set_option maxHeartbeats 16000000
attribute [local irreducible] arun arunD arunU AWp aend
end Go.Proofs.YtbdfghlkkdkpgaaDoor

