/-
  SCOPE: lists as they read; copies of points.
  Conditions: none.
-/
import Derived.Test.YtcfmanhblonjeaaGreatDoorGe
import Derived.Test.YtcfmanhblonjeaaGreatDoorGf
import Derived.Test.YtcfmanhblonjeaaGreatDoorGg
import Derived.Test.YtcfmanhblonjeaaGreatDoorGh
import Derived.Test.YtcfmanhblonjeaaGreatDoorGj
import Derived.Test.YtcfmanhblonjeaaGreatDoorGl
import Derived.Test.YtcfmanhblonjeaaGreatDoorQ16
import Derived.Test.YtcfmanhblonjeaaGreatDoorQ17
import Derived.Test.YtcfmanhblonjeaaGreatDoorQ18
import Derived.Test.YtcfmanhblonjeaaGreatDoorQ19
import Derived.Test.YtcfmanhblonjeaaGreatDoorQ25
import Derived.Test.YtcfmanhblonjeaaGreatDoorQ26
import Derived.Test.YtcfmanhblonjeaaGreatDoorQ27
import Derived.Test.YtcfmanhblonjeaaGreatDoorTab
import Derived.Test.YtcfmanhblonjeaaGreatDoorGd
import Derived.Test.YtcfmanhblonjeaaGreatDoorGi
import Derived.Test.YtcfmanhblonjeaaGreatDoorVs33
import Derived.Test.YtcfmanhblonjeaaGreatDoorVs34
import Derived.Test.YtcfmanhblonjeaaGreatDoorVs35
set_option linter.all false
namespace Go.Stp
open Go.VS
structure Sc where
  names : List Gn
  ou : Bool
  oc : Bool
  reasons : Int
  ind : Bool
  deriving DecidableEq
structure En where
  serial : Int
  time : Int
  reason : Int
  inv : Int
  issuer : Nm
  deriving DecidableEq
structure Li where
  raw : List UInt8
  tbs : List UInt8
  issuer : Nm
  this : Int
  next : Int
  number : Int
  base : Int
  ak : List UInt8
  has : Bool
  sc : Sc
  fresh : List Pt
  entries : List En
  sig : List UInt8
  deriving DecidableEq
def En.c (e : En) : List V := [.int .i64 e.serial, .int .i64 e.time, .int .i64 e.reason, .int .i64 e.inv, nmV e.issuer]
def ensV (l : List En) : V := .sl l.length (l.flatMap En.c)
def Sc.c (s : Sc) : List V := [gnsV s.names, .bool s.ou, .bool s.oc, .int .i64 s.reasons, .bool s.ind]
def Li.c (l : Li) : List V := [.str l.raw, .str l.tbs, nmV l.issuer, .int .i64 l.this, .int .i64 l.next, .int .i64 l.number, .int .i64 l.base, .str l.ak, .bool l.has, gnsV l.sc.names, .bool l.sc.ou, .bool l.sc.oc, .int .i64 l.sc.reasons, .bool l.sc.ind, ptsV l.fresh, ensV l.entries, .str l.sig]
@[simp] theorem ensV_pure (r : List En) : (ensV r).Pure := .sl
@[simp] theorem ensV_one (r : List En) : (ensV r).one = true := rfl
@[simp] theorem Sc.c_pures (s : Sc) : Pures s.c := by simp [Sc.c]
@[simp] theorem Li.c_pures (l : Li) : Pures l.c := by simp [Li.c]
@[simp] theorem Pt.c_len (p : Pt) : p.c.length = 4 := rfl
theorem Pt.c_one (p : Pt) : ∀ x ∈ p.c, x.one = true := ptc_one p
end Go.Stp
namespace Go.Proofs.YtcfmanhblonjeaaGreatDoor
open Go.VS Go.Stp
set_option linter.all false
set_option maxRecDepth 100000
set_option maxHeartbeats 8000000
attribute [local irreducible] arun arunD AWp aend
end Go.Proofs.YtcfmanhblonjeaaGreatDoor

