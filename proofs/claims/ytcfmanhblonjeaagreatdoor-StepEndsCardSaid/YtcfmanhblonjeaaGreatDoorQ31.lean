/-
  STEP: queries from a deck.
  Conditions: none.
-/
import Derived.Test.YtcfmanhblonjeaaGreatDoorGe
import Derived.Test.YtcfmanhblonjeaaGreatDoorGf
import Derived.Test.YtcfmanhblonjeaaGreatDoorGg
import Derived.Test.YtcfmanhblonjeaaGreatDoorGh
import Derived.Test.YtcfmanhblonjeaaGreatDoorGj
import Derived.Test.YtcfmanhblonjeaaGreatDoorGl
import Derived.Test.YtcfmanhblonjeaaGreatDoorGk
import Derived.Test.YtcfmanhblonjeaaGreatDoorQ16
import Derived.Test.YtcfmanhblonjeaaGreatDoorQ17
import Derived.Test.YtcfmanhblonjeaaGreatDoorQ18
import Derived.Test.YtcfmanhblonjeaaGreatDoorQ19
import Derived.Test.YtcfmanhblonjeaaGreatDoorQ25
import Derived.Test.YtcfmanhblonjeaaGreatDoorQ26
import Derived.Test.YtcfmanhblonjeaaGreatDoorQ27
import Derived.Test.YtcfmanhblonjeaaGreatDoorQ28
import Derived.Test.YtcfmanhblonjeaaGreatDoorQ29
import Derived.Test.YtcfmanhblonjeaaGreatDoorTab
import Derived.Test.YtcfmanhblonjeaaGreatDoorGd
import Derived.Test.YtcfmanhblonjeaaGreatDoorGi
import Derived.Test.YtcfmanhblonjeaaGreatDoorVs33
import Derived.Test.YtcfmanhblonjeaaGreatDoorVs34
import Derived.Test.YtcfmanhblonjeaaGreatDoorVs35
import Derived.Test.YtcfmanhblonjeaaGreatDoorVs36
set_option linter.all false
namespace Go.Stp
open Go.VS Go.Proofs.YtcfmanhblonjeaaGreatDoor
structure WQu (q : Qu) : Prop where
  time : q.time = 2000
  pol : q.policies.length ≤ 3
  names : q.names.length ≤ 1 ∧ ∀ g ∈ q.names, WE g
  issuers : q.issuers.length ≤ 2 ∧ ∀ a ∈ q.issuers, ∃ k : Int, 0 ≤ k ∧ k < 8 ∧ a = anc k.toNat
  maxlen : 1 ≤ q.maxlen ∧ q.maxlen ≤ 4
end Go.Stp
namespace Go.Proofs.YtcfmanhblonjeaaGreatDoor
open Go.VS Go.Stp
set_option linter.all false
set_option maxRecDepth 100000
set_option maxHeartbeats 16000000
theorem anchor_i (x : Int) (h0 : 0 ≤ x) (h : x < 8) : PCall Tryz.prog 18 [.int .i64 x] (.agg [nmV (anc x.toNat).n, .int .i64 (anc x.toNat).k.h, .str (anc x.toNat).k.id, .str (anc x.toNat).k.root]) := by
  have := anchor_call x.toNat (by omega)
  rwa [show ((x.toNat : Nat) : Int) = x by omega] at this
attribute [local irreducible] arun arunD arunU AWp aend
end Go.Proofs.YtcfmanhblonjeaaGreatDoor

