/-
 HOST: Mail, MailBase, MailMatch by the definition.
 Conditions: none.
-/
import Derived.Test.YtjlnoogcggdhkaaGreatDoorJc
set_option maxRecDepth 100000
set_option maxHeartbeats 32000000
set_option linter.all false
namespace Go.Proofs.YtjlnoogcggdhkaaGreatDoor.Ho
open Go.VS Go.Hst
attribute [local irreducible] bj au bE aS bz
theorem EH(s:List UInt8)(hs:s.length≤1000000):ao Tryz.prog 244 [.str s] (.bool (cD s)):=by
 refine ah Tryz.func244 rfl Tryz.call244 ?_ ?_
 rotate_left 1
 refine af (s':=(.str s:V)::zJ 12) rfl ?_;dsimp only[zJ]
 have hc:=rY s hs
 unfold pr at hc
 cases h:cD s
 ·rw[if_neg (by simp[h])]at hc
  repeat' (first|refine Z2U hc ?_|refine ay ?_|fail)
  exact .pure .bool
 ·rw[if_pos h]at hc
  repeat' (first|refine Z2U hc ?_|refine ay ?_|fail)
  exact .pure .bool
 ·exact .bool
theorem B4(s:List UInt8)(hs:s.length≤1000000):ao Tryz.prog 242 [.str s] (.bool (fj s)):=by
 rw[←RO]
 refine ah Tryz.func242 rfl Tryz.call242 ?_ ?_
 rotate_left 1
 refine af (s':=(.str s:V)::zJ 28) rfl ?_;dsimp only[zJ]
 have bD:=EH s hs
 have bC:=oh s hs
 have cE:=oh (s.drop 1) (by simp;omega)
 rw[List.drop_one]at cE
 unfold FC
 rw[List.drop_one]
 cases h1:cD s<;>rw[h1]at bD
 case true=>
  repeat' (first|refine od bD ?_|refine ay ?_|refine gm ?_|fail)
  exact .pure .bool
 cases h2:du s<;>rw[h2]at bC
 case true=>
  repeat' (first|refine od (Zj bD bC) ?_|refine ay ?_|refine gm ?_|fail)
  exact .pure .bool
 by_cases h3:(s.length:Int)≤128
 ·rw[show decide (s.length≤128)=true by simp;omega]
  by_cases h4:(1:Int)<s.length
  ·rw[show decide (1<s.length)=true by simp;omega]
   have cI:0<s.length:=by omega
   have g0:s.getD 0 0=s[0]'cI:=by simp[cI]
   rw[g0]
   by_cases h6:((s[0]'cI).toNat:Int)=46
   ·have oF:s[0]'cI=46:=nG.1 h6
    rw[oF]
    repeat' (first|refine bS (Zj h3 (Zj h4 (Zj h6 @apR.{0}))) (Zj bD (Zj bC cE)) ?_|refine ay ?_|refine aK (Zj h3 (Zj h4 (Zj h6 @apR.{0}))) ?_|fail)
    exact .pure .bool
   ·have oF:(s[0]'cI==46)=false:=beq_false_of_ne fun e=>h6 (nG.2 e)
    rw[oF]
    repeat' (first|refine bS (Zj h3 (Zj h4 h6)) (Zj bD (Zj bC cE)) ?_|refine ay ?_|refine aK (Zj h3 (Zj h4 h6)) ?_|fail)
    exact .pure .bool
  ·rw[show decide (1<s.length)=false by simp;omega]
   repeat' (first|refine bS (Zj h3 h4) (Zj bD bC) ?_|refine ay ?_|refine aK (Zj h3 h4) ?_|fail)
   exact .pure .bool
 ·rw[show decide (s.length≤128)=false by simp;omega]
  repeat' (first|refine bS h3 (Zj bD bC) ?_|refine ay ?_|refine aK h3 ?_|fail)
  exact .pure .bool
 ·exact .bool
theorem KR(a b:List UInt8)(hl1:a.length≤1000000)(F8:b.length≤1000000):ao Tryz.prog 245 [.str a,.str b] (.bool (qg a b)):=by
 refine ah Tryz.func245 rfl Tryz.call245 ?_ ?_
 rotate_left 1
 refine af (s':=(.str a:V)::(.str b:V)::zJ 35) rfl ?_;dsimp only[zJ]
 have ha:=pX 64 a
 have hb:=pX 64 b
 have bD:=rY a hl1
 have bC:=rY b F8
 have kx:=rI (fO 64 a) (fO 64 b) (by omega) (by omega)
 unfold pr at bD bC
 unfold qg
 cases h1:cD a<;>simp only[h1,if_true,if_false,aqo]at bD
 ·cases h2:cD b<;>simp only[h2,if_true,if_false,aqo]at bC
  ·repeat' (first|refine od (Zj bD bC) ?_|refine ay ?_|refine gm ?_|fail)
   exact .pure .bool
  ·repeat' (first|refine od (Zj bD bC) ?_|refine ay ?_|refine gm ?_|fail)
   exact .pure .bool
 cases h2:cD b<;>simp only[h2,if_true,if_false,aqo]at bC
 ·repeat' (first|refine od (Zj bD bC) ?_|refine ay ?_|refine gm ?_|fail)
  exact .pure .bool
 generalize dJ 64 a=x at*
 generalize dJ 64 b=y at*
 by_cases h3:x=y
 ·subst h3
  repeat' (first|refine od (Zj bD (Zj bC kx)) ?_|refine ay ?_|refine gm ?_|fail)
  simp
  exact .pure .bool
 ·have zb:(x==y)=false:=by simpa using h3
  repeat' (first|refine bS (Zj h3 zb) (Zj bD (Zj bC kx)) ?_|refine ay ?_|refine aK (Zj h3 zb) ?_|fail)
  rw[zb]
  exact .pure .bool
 ·exact .bool
end Go.Proofs.YtjlnoogcggdhkaaGreatDoor.Ho
namespace Go.Proofs.YtjlnoogcggdhkaaGreatDoor.Ho
open Go.VS Go.Hst
attribute [local irreducible] bj au bE aS bz
theorem Hr(s b:List UInt8)(hs:s.length≤1000000)(hb:b.length≤1000000):ao Tryz.prog 202 [.str s,.str b] (.bool (pO s b)):=by
 rw[←Mb]
 refine ah Tryz.func202 rfl Tryz.call202 ?_ ?_
 rotate_left 1
 refine af (s':=(.str s:V)::(.str b:V)::zJ 56) rfl ?_;dsimp only[zJ]
 have ha:=pX 64 s
 have bD:=B4 b hb
 have bC:=B4 s hs
 have cE:=EH b hb
 have rC:=KR s b hs hb
 have kx:=rY s hs
 unfold pr at kx
 unfold zO
 cases h1:fj b<;>rw[h1]at bD
 ·repeat' (first|refine od bD ?_|refine ay ?_|(refine Yb rfl ?_ ?_<;>intro ab<;>(try simp at ab)<;>try exact dc)|refine gm ?_|fail)
  exact .pure .bool
 have cI:0<b.length:=aqj.2 (Kg h1)
 have g0:b.getD 0 0=b[0]'cI:=by simp[cI]
 have fin: ∀d:List UInt8,d.length≤1000000→ao Tryz.prog 246 [.str d,.str b] (.bool (jT d b))∧ao Tryz.prog 247 [.str d,.str b] (.bool (yP d b)):=fun d hd=>⟨rI d b (by omega) (by omega),Dw d b (by omega) (by omega)⟩
 simp only[aq9]
 unfold RL
 rw[g0]
 cases h2:cD s<;>simp only[h2,if_true,if_false,aqo]at kx⊢
 ·cases h3:fj s<;>rw[h3]at bC
  ·repeat' (first|refine od (Zj bD (Zj bC kx)) ?_|refine ay ?_|(refine Yb rfl ?_ ?_<;>intro ab<;>(try simp at ab)<;>try exact dc)|refine gm ?_|fail)
   exact .pure .bool
  cases h4:cD b<;>rw[h4]at cE
  case true=>
   repeat' (first|refine od (Zj bD (Zj bC (Zj cE kx))) ?_|refine ay ?_|(refine Yb rfl ?_ ?_<;>intro ab<;>(try simp at ab)<;>try exact dc)|refine gm ?_|fail)
   exact .pure .bool
  obtain⟨f1,f2⟩:=fin s hs
  cases h5:jT s b<;>rw[h5]at f1
  case true=>
   repeat' (first|((first|refine fc ?_|(refine fU ?_ ?_;(focus (simp;done))));intro K9 h9;refine Zd ?_;((first|refine Ap bD ?_|refine Ap bC ?_|refine Ap cE ?_|refine Ap kx ?_|refine Ap f1 ?_|skip)<;>(refine fe h9 ?_;clear h9 K9)))|refine ay ?_|(refine Yb rfl ?_ ?_<;>intro ab<;>(try simp at ab)<;>try exact dc)|refine gm ?_|fail)
   exact .pure .bool
  by_cases h6:((b[0]'cI).toNat:Int)=46
  ·have oF:b[0]'cI=46:=nG.1 h6
   repeat' (first|((first|refine fc ?_|(refine fU ?_ ?_;(focus (simp[h6];done))));intro K9 h9;simp(disch:=first|exact dd|fail) [h6];refine Zm ?_;((first|refine Ap bD ?_|refine Ap bC ?_|refine Ap cE ?_|refine Ap kx ?_|refine Ap f1 ?_|refine Ap f2 ?_|skip)<;>(refine fe h9 ?_;clear h9 K9)))|refine ay ?_|(refine Yb rfl ?_ ?_<;>intro ab<;>(try simp at ab)<;>try exact dc)|refine aK h6 ?_|fail)
   rw[oF]
   exact .pure .bool
  ·have oF:(b[0]'cI==46)=false:=beq_false_of_ne fun e=>h6 (nG.2 e)
   repeat' (first|((first|refine fc ?_|(refine fU ?_ ?_;(focus (simp[h6];done))));intro K9 h9;simp(disch:=first|exact dd|fail) [h6];refine Zm ?_;((first|refine Ap bD ?_|refine Ap bC ?_|refine Ap cE ?_|refine Ap kx ?_|refine Ap f1 ?_|refine Ap f2 ?_|skip)<;>(refine fe h9 ?_;clear h9 K9)))|refine ay ?_|(refine Yb rfl ?_ ?_<;>intro ab<;>(try simp at ab)<;>try exact dc)|refine aK h6 ?_|fail)
   rw[oF]
   exact .pure .bool
 ·cases h4:cD b<;>rw[h4]at cE
  case true=>
   repeat' (first|refine od (Zj bD (Zj cE (Zj rC kx))) ?_|refine ay ?_|(refine Yb rfl ?_ ?_<;>intro ab<;>(try simp at ab)<;>try exact dc)|refine gm ?_|fail)
   exact .pure .bool
  simp only[aqo,if_false]
  obtain⟨f1,f2⟩:=fin (fO 64 s) (by omega)
  cases h5:jT (fO 64 s) b<;>rw[h5]at f1
  case true=>
   repeat' (first|refine od (Zj bD (Zj cE (Zj kx f1))) ?_|refine ay ?_|(refine Yb rfl ?_ ?_<;>intro ab<;>(try simp at ab)<;>try exact dc)|refine gm ?_|fail)
   exact .pure .bool
  by_cases h6:((b[0]'cI).toNat:Int)=46
  ·have oF:b[0]'cI=46:=nG.1 h6
   repeat' (first|((first|refine fc ?_|(refine fU ?_ ?_;(focus (simp[h6];done))));intro K9 h9;simp(disch:=first|exact dd|fail) [h6];refine Zm ?_;((first|refine Ap bD ?_|refine Ap cE ?_|refine Ap kx ?_|refine Ap f1 ?_|refine Ap f2 ?_|skip)<;>(refine fe h9 ?_;clear h9 K9)))|refine ay ?_|(refine Yb rfl ?_ ?_<;>intro ab<;>(try simp at ab)<;>try exact dc)|refine aK h6 ?_|fail)
   rw[oF]
   exact .pure .bool
  ·have oF:(b[0]'cI==46)=false:=beq_false_of_ne fun e=>h6 (nG.2 e)
   repeat' (first|((first|refine fc ?_|(refine fU ?_ ?_;(focus (simp[h6];done))));intro K9 h9;simp(disch:=first|exact dd|fail) [h6];refine Zm ?_;((first|refine Ap bD ?_|refine Ap cE ?_|refine Ap kx ?_|refine Ap f1 ?_|refine Ap f2 ?_|skip)<;>(refine fe h9 ?_;clear h9 K9)))|refine ay ?_|(refine Yb rfl ?_ ?_<;>intro ab<;>(try simp at ab)<;>try exact dc)|refine aK h6 ?_|fail)
   rw[oF]
   exact .pure .bool
 ·exact .bool
end Go.Proofs.YtjlnoogcggdhkaaGreatDoor.Ho
