/-
 STEP: the examples of the chapter.
 Conditions: none.
-/
import Derived.Test.YtnpndfmbkmbhbaaGreatDoorGl
set_option maxRecDepth 100000
set_option maxHeartbeats 32000000
namespace Go.Proofs.YtnpndfmbkmbhbaaGreatDoor
open Go.Proofs.Tryz
open Go.VS Go.Stp
set_option linter.all false
attribute [local irreducible] arun arunD arunU AWp aend bits
def q0 : Qu := ⟨0, [], 0, [], false, false, false, [], 0, false, []⟩
def sA : Pg := beginS (anc 0) q0
def sB : Pg := { sA with len := 0 }
end Go.Proofs.YtnpndfmbkmbhbaaGreatDoor
