/-
 STEP: mappings, strings each once, points from a deck.
 Conditions: none.
-/
import Derived.Test.YtjlnoogcggdhkaaGreatDoorGl
import Derived.Test.YtjlnoogcggdhkaaGreatDoorGm
set_option maxRecDepth 100000
set_option maxHeartbeats 32000000
namespace Go.Stp
open Go.VS
@[simp] theorem aeI(l:List Mp):bf (l.flatMap Mp.c):=kG (fun m=>by simp[Mp.c]) l
end Go.Stp
namespace Go.Proofs.YtjlnoogcggdhkaaGreatDoor
open Go.Proofs.Tryz
open Go.VS Go.Stp
set_option linter.all false
attribute [local irreducible] bj au bE aS bz
end Go.Proofs.YtjlnoogcggdhkaaGreatDoor
namespace Go.Stp
open Go.VS
@[simp] theorem aeJ(l:List Pt):bf (l.flatMap Pt.c):=kG (fun m=>by simp[Pt.c]) l
end Go.Stp
namespace Go.Proofs.YtjlnoogcggdhkaaGreatDoor
open Go.Proofs.Tryz
open Go.VS Go.Stp
set_option linter.all false
attribute [local irreducible] bj au bE aS bz
end Go.Proofs.YtjlnoogcggdhkaaGreatDoor
namespace Go.Stp
open Go.VS
structure Sc where
 names:List Gn
 ou:Bool
 oc:Bool
 AN:Int
 ind:Bool
 deriving DecidableEq
structure En where
 dK:Int
 time:Int
 reason:Int
 inv:Int
 aT:Nm
 deriving DecidableEq
structure Li where
 raw:List UInt8
 eQ:List UInt8
 aT:Nm
 this:Int
 next:Int
 number:Int
 base:Int
 ak:List UInt8
 has:Bool
 sc:Sc
 fresh:List Pt
 entries:List En
 sig:List UInt8
 deriving DecidableEq
def En.c(e:En):List V:=[.int .i64 e.dK,.int .i64 e.time,.int .i64 e.reason,.int .i64 e.inv,aW e.aT]
def U8(l:List En):V:=.sl l.length (l.flatMap En.c)
def Sc.c(s:Sc):List V:=[aX s.names,.bool s.ou,.bool s.oc,.int .i64 s.AN,.bool s.ind]
def Li.c(l:Li):List V:=[.str l.raw,.str l.eQ,aW l.aT,.int .i64 l.this,.int .i64 l.next,.int .i64 l.number,.int .i64 l.base,.str l.ak,.bool l.has,aX l.sc.names,.bool l.sc.ou,.bool l.sc.oc,.int .i64 l.sc.AN,.bool l.sc.ind,cM l.fresh,U8 l.entries,.str l.sig]
@[simp] theorem aeK(r:List En):(U8 r).Pure:=.sl
@[simp] theorem ag6(r:List En):(U8 r).one=true:=rfl
@[simp] theorem Sc.fC(s:Sc):bf s.c:=by simp[Sc.c]
@[simp] theorem Li.fC(l:Li):bf l.c:=by simp[Li.c]
@[simp] theorem Pt.fl(p:Pt):p.c.length=4:=rfl
end Go.Stp
namespace Go.Proofs.YtjlnoogcggdhkaaGreatDoor
open Go.Proofs.Tryz
open Go.VS Go.Stp
set_option linter.all false
attribute [local irreducible] bj au aS bz
end Go.Proofs.YtjlnoogcggdhkaaGreatDoor
