/-
  STEP: what is short: names, general names, extensions.
  Conditions: none.
-/
import Derived.Test.YtcfmanhblonjeaaGreatDoorGe
import Derived.Test.YtcfmanhblonjeaaGreatDoorGf
import Derived.Test.YtcfmanhblonjeaaGreatDoorGg
import Derived.Test.YtcfmanhblonjeaaGreatDoorGh
import Derived.Test.YtcfmanhblonjeaaGreatDoorGj
import Derived.Test.YtcfmanhblonjeaaGreatDoorGl
import Derived.Test.YtcfmanhblonjeaaGreatDoorTab
import Derived.Test.YtcfmanhblonjeaaGreatDoorGd
import Derived.Test.YtcfmanhblonjeaaGreatDoorGi
import Derived.Test.YtcfmanhblonjeaaGreatDoorVs34
set_option linter.all false
namespace Go.Stp
open Go.VS
theorem exc_len (x : Ex) : x.c.length = 3 := rfl
theorem exs_len (l : List Ex) : (l.flatMap Ex.c).length = l.length * 3 := flat_len exc_len l
theorem exs_at (r : List Ex) (i : Nat) (h : i < r.length) : ((r.flatMap Ex.c).drop (i * 3)).take 3 = r[i].c := flat_at exc_len r i h
end Go.Stp
namespace Go.Proofs.YtcfmanhblonjeaaGreatDoor
open Go.VS Go.Stp
set_option linter.all false
set_option maxRecDepth 100000
set_option maxHeartbeats 16000000
attribute [local irreducible] arun arunD arunU AWp aend
end Go.Proofs.YtcfmanhblonjeaaGreatDoor

