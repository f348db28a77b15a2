/-
 ENCODINGS: elements, integers, identifiers, times, as lists of bytes.
 Conditions: none.
-/
import Derived.Test.YtjlnoogcggdhkaaGreatDoorGl
set_option maxRecDepth 100000
set_option maxHeartbeats 32000000
namespace Go.Der
open Go.VS
abbrev Bs:=List UInt8
structure El where
 tag:Int
 con:Bs
 raw:Bs
 deriving DecidableEq
def El.z:El:=⟨0,[],[]⟩
def El.c(e:El):List V:=[.int .i64 e.tag,.str e.con,.str e.raw]
end Go.Der
namespace Go.Der
open Go.VS
theorem u8n(n:Nat)(h:n<256):(UInt8.ofNat n).toNat=n:=by simp[UInt8.toNat_ofNat'];omega
end Go.Der
