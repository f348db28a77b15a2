/-
  STEP: an extension from a deck.
  Conditions: none.
-/
import Derived.Test.YtbdfghlkkdkpgaaDoorGe
import Derived.Test.YtbdfghlkkdkpgaaDoorGf
import Derived.Test.YtbdfghlkkdkpgaaDoorGj
import Derived.Test.YtbdfghlkkdkpgaaDoorGl
import Derived.Test.YtbdfghlkkdkpgaaDoorQ16
import Derived.Test.YtbdfghlkkdkpgaaDoorQ17
import Derived.Test.YtbdfghlkkdkpgaaDoorQ18
import Derived.Test.YtbdfghlkkdkpgaaDoorQ25
import Derived.Test.YtbdfghlkkdkpgaaDoorQ26
import Derived.Test.YtbdfghlkkdkpgaaDoorQ27
import Derived.Test.YtbdfghlkkdkpgaaDoorTab
import Derived.Test.YtbdfghlkkdkpgaaDoorGd
import Derived.Test.YtbdfghlkkdkpgaaDoorGi
import Derived.Test.YtbdfghlkkdkpgaaDoorVs33
import Derived.Test.YtbdfghlkkdkpgaaDoorVs34
import Derived.Test.YtbdfghlkkdkpgaaDoorVs35
import Derived.Test.YtbdfghlkkdkpgaaDoorVs36
set_option linter.all false
namespace Go.Stp
open Go.VS
section
variable {id : Nat} {cs : List V}
@[simp] theorem fz_gnsV {x : List Gn} : fz id cs (gnsV x) = gnsV x := rfl
@[simp] theorem fz_nmV {x : Nm} : fz id cs (nmV x) = nmV x := rfl
@[simp] theorem fz_strV {x : List (List UInt8)} : fz id cs (strV x) = strV x := rfl
@[simp] theorem fz_mpsV {x : List Mp} : fz id cs (mpsV x) = mpsV x := rfl
@[simp] theorem fz_ptsV {x : List Pt} : fz id cs (ptsV x) = ptsV x := rfl
@[simp] theorem fz_exsV {x : List Ex} : fz id cs (exsV x) = exsV x := rfl
@[simp] theorem fz_sbsV {x : List Sb} : fz id cs (sbsV x) = sbsV x := rfl
@[simp] theorem fz_ansV {x : List An} : fz id cs (ansV x) = ansV x := rfl
end
end Go.Stp
namespace Go.Proofs.YtbdfghlkkdkpgaaDoor
open Go.VS Go.Stp
set_option linter.all false
set_option maxRecDepth 100000
set_option maxHeartbeats 16000000
attribute [local irreducible] arun arunD arunU AWp aend
end Go.Proofs.YtbdfghlkkdkpgaaDoor

