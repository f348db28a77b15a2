/-
 SCOPE: when two general names are the same (names of hosts and directories).
 Conditions: none.
-/
import Derived.Test.YtjlnoogcggdhkaaGreatDoorGo
import Derived.Test.YtjlnoogcggdhkaaGreatDoorGn
set_option maxRecDepth 100000
set_option maxHeartbeats 32000000
namespace Go.Stp
open Go.VS
def Gh(k:Int):Int:=if k=1 then 0 else if k=2 then 1 else if k=4 then 2 else if k=7 then 3 else 4
end Go.Stp
namespace Go.Proofs.YtjlnoogcggdhkaaGreatDoor
open Go.Proofs.Tryz
open Go.VS Go.Stp
set_option linter.all false
attribute [local irreducible] bj au bE aS bz
theorem sU(k:Int):ao prog 197 [.int .i64 k] (.int .i64 (Gh k)):=by
 refine ah func197 rfl call197 ?_ ?_
 rotate_left 1
 refine af (s':=(.int .i64 k:V)::zJ 11) rfl ?_;dsimp only[zJ]
 unfold Gh
 by_cases h1:k=1
 ·rw[if_pos h1]
  repeat' (first|refine Z0 h1 ?_|refine Zt ?_|(refine Yb rfl ?_ ?_<;>intro ab<;>(try simp at ab)<;>try exact dc))
  exact .pure .int
 rw[if_neg h1]
 by_cases h2:k=2
 ·rw[if_pos h2]
  repeat' (first|refine Z0 (Zj h1 h2) ?_|refine Zt ?_|(refine Yb rfl ?_ ?_<;>intro ab<;>(try simp at ab)<;>try exact dc))
  exact .pure .int
 rw[if_neg h2]
 by_cases h3:k=4
 ·rw[if_pos h3]
  repeat' (first|refine Z0 (Zj h1 (Zj h2 h3)) ?_|refine Zt ?_|(refine Yb rfl ?_ ?_<;>intro ab<;>(try simp at ab)<;>try exact dc))
  exact .pure .int
 rw[if_neg h3]
 by_cases h4:k=7
 ·rw[if_pos h4]
  repeat' (first|refine Z0 (Zj h1 (Zj h2 (Zj h3 h4))) ?_|refine Zt ?_|(refine Yb rfl ?_ ?_<;>intro ab<;>(try simp at ab)<;>try exact dc))
  exact .pure .int
 rw[if_neg h4]
 repeat' (first|refine Z0 (Zj h1 (Zj h2 (Zj h3 h4))) ?_|refine Zt ?_|(refine Yb rfl ?_ ?_<;>intro ab<;>(try simp at ab)<;>try exact dc))
 exact .pure .int
 exact .int
end Go.Proofs.YtjlnoogcggdhkaaGreatDoor
