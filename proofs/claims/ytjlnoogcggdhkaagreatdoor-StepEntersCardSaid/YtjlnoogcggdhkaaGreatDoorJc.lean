/-
 HOST: DNSMatch, DNSWithin.
 Conditions: none.
-/
import Derived.Test.YtjlnoogcggdhkaaGreatDoorJb
set_option maxRecDepth 100000
set_option maxHeartbeats 32000000
set_option linter.all false
namespace Go.Proofs.YtjlnoogcggdhkaaGreatDoor.Ho
open Go.VS Go.Hst
attribute [local irreducible] bj au bE aS bz
theorem LN(s b:List UInt8)(hs:s.length≤1000000)(hb:b.length≤900000):ao Tryz.prog 199 [.str s,.str b] (.bool (et s b)):=by
 refine ah Tryz.func199 rfl Tryz.call199 ?_ ?_
 rotate_left 1
 refine af (s':=(.str s:V)::(.str b:V)::zJ 28) rfl ?_;dsimp only[zJ]
 have bD:=Iu s hs
 have bC:=Qi b (by omega)
 have cE:=xf s b (by omega) (by omega)
 have rC:=Gs s (46::b) (by omega) (by simp;omega)
 unfold et
 obtain⟨o,ho⟩: ∃o,(s==[]||oW s)=o:=⟨_,rfl⟩
 have jW:o=true→s=[]∨(s≠ []∧oW s=true):=by
  intro h;rw[h]at ho
  by_cases hs:s=[]
  ·exact .inl hs
  ·refine .inr ⟨hs,?_⟩
   simpa[hs]using ho
 rw[ho]
 cases o
 ·have hn:s≠ []:=fun e=>by subst e;simp at ho
  have e:(s==[])=false:=by simpa using hn
  have h1:oW s=false:=by simpa[hn]using ho
  rw[h1]at bD
  repeat' (first|refine bS (Zj hn (Zj e h1)) bD ?_|refine ay ?_|refine aK (Zj hn (Zj e h1)) ?_|fail)
  exact .pure .bool
 have main: ∀(e:(s==[])=true∨((s==[])=false∧oW s=true)),True:=fun _=>trivial
 rcases jW rfl with h0|⟨h0,h1⟩
 ·subst h0
  cases h2:rG b<;>rw[h2]at bC
  ·repeat' (first|refine bS h2 bC ?_|refine ay ?_|refine aK h2 ?_|fail)
   exact .pure .bool
  by_cases h3:b=[]
  ·subst h3
   repeat' (first|refine bS h2 bC ?_|refine ay ?_|refine aK h2 ?_|fail)
   exact .pure .bool
  have e3:(b==[])=false:=by simpa using h3
  cases h4:jT [] b<;>rw[h4]at cE
  ·repeat' (first|refine bS (Zj h2 (Zj h3 (Zj e3 h4))) (Zj bC (Zj cE rC)) ?_|refine ay ?_|refine aK (Zj h2 (Zj h3 (Zj e3 h4))) ?_|fail)
   rw[e3]
   exact .pure .bool
  ·repeat' (first|refine bS (Zj h2 (Zj h3 (Zj e3 h4))) (Zj bC (Zj cE rC)) ?_|refine ay ?_|refine aK (Zj h2 (Zj h3 (Zj e3 h4))) ?_|fail)
   rw[e3]
   exact .pure .bool
 ·have e:(s==[])=false:=by simpa using h0
  rw[h1]at bD
  cases h2:rG b<;>rw[h2]at bC
  ·repeat' (first|refine bS (Zj h0 (Zj e (Zj h1 h2))) (Zj bD bC) ?_|refine ay ?_|refine aK (Zj h0 (Zj e (Zj h1 h2))) ?_|fail)
   exact .pure .bool
  by_cases h3:b=[]
  ·subst h3
   repeat' (first|refine bS (Zj h0 (Zj e (Zj h1 h2))) (Zj bD bC) ?_|refine ay ?_|refine aK (Zj h0 (Zj e (Zj h1 h2))) ?_|fail)
   exact .pure .bool
  have e3:(b==[])=false:=by simpa using h3
  cases h4:jT s b<;>rw[h4]at cE
  ·repeat' (first|refine bS (Zj h0 (Zj e (Zj h1 (Zj h2 (Zj h3 (Zj e3 h4)))))) (Zj bD (Zj bC (Zj cE rC))) ?_|refine ay ?_|refine aK (Zj h0 (Zj e (Zj h1 (Zj h2 (Zj h3 (Zj e3 h4)))))) ?_|fail)
   rw[e3]
   exact .pure .bool
  ·repeat' (first|refine bS (Zj h0 (Zj e (Zj h1 (Zj h2 (Zj h3 (Zj e3 h4)))))) (Zj bD (Zj bC (Zj cE rC))) ?_|refine ay ?_|refine aK (Zj h0 (Zj e (Zj h1 (Zj h2 (Zj h3 (Zj e3 h4)))))) ?_|fail)
   rw[e3]
   exact .pure .bool
 ·exact .bool
end Go.Proofs.YtjlnoogcggdhkaaGreatDoor.Ho
namespace Go.Proofs.YtjlnoogcggdhkaaGreatDoor.Ho
open Go.VS Go.Hst
attribute [local irreducible] bj au bE aS bz
theorem oK(s b:List UInt8)(hs:s.length≤1000000)(hb:b.length≤900000):ao Tryz.prog 203 [.str s,.str b] (.bool (et s b)):=by
 refine ah Tryz.func203 rfl Tryz.call203 ?_ ?_
 rotate_left 1
 refine af (s':=(.str s:V)::(.str b:V)::zJ 28) rfl ?_;dsimp only[zJ]
 have bD:=Hw s hs
 have bC:=N3 b (by omega)
 have cE:=rI s b (by omega) (by omega)
 have rC:=Dw s (46::b) (by omega) (by simp;omega)
 unfold et
 obtain⟨o,ho⟩: ∃o,(s==[]||oW s)=o:=⟨_,rfl⟩
 have jW:o=true→s=[]∨(s≠ []∧oW s=true):=by
  intro h;rw[h]at ho
  by_cases hs:s=[]
  ·exact .inl hs
  ·refine .inr ⟨hs,?_⟩
   simpa[hs]using ho
 rw[ho]
 cases o
 ·have hn:s≠ []:=fun e=>by subst e;simp at ho
  have e:(s==[])=false:=by simpa using hn
  have h1:oW s=false:=by simpa[hn]using ho
  rw[h1]at bD
  repeat' (first|refine bS (Zj hn (Zj e h1)) bD ?_|refine ay ?_|refine aK (Zj hn (Zj e h1)) ?_|fail)
  exact .pure .bool
 have main: ∀(e:(s==[])=true∨((s==[])=false∧oW s=true)),True:=fun _=>trivial
 rcases jW rfl with h0|⟨h0,h1⟩
 ·subst h0
  cases h2:rG b<;>rw[h2]at bC
  ·repeat' (first|refine bS h2 bC ?_|refine ay ?_|refine aK h2 ?_|fail)
   exact .pure .bool
  by_cases h3:b=[]
  ·subst h3
   repeat' (first|refine bS h2 bC ?_|refine ay ?_|refine aK h2 ?_|fail)
   exact .pure .bool
  have e3:(b==[])=false:=by simpa using h3
  cases h4:jT [] b<;>rw[h4]at cE
  ·repeat' (first|refine bS (Zj h2 (Zj h3 (Zj e3 h4))) (Zj bC (Zj cE rC)) ?_|refine ay ?_|refine aK (Zj h2 (Zj h3 (Zj e3 h4))) ?_|fail)
   rw[e3]
   exact .pure .bool
  ·repeat' (first|refine bS (Zj h2 (Zj h3 (Zj e3 h4))) (Zj bC (Zj cE rC)) ?_|refine ay ?_|refine aK (Zj h2 (Zj h3 (Zj e3 h4))) ?_|fail)
   rw[e3]
   exact .pure .bool
 ·have e:(s==[])=false:=by simpa using h0
  rw[h1]at bD
  cases h2:rG b<;>rw[h2]at bC
  ·repeat' (first|refine bS (Zj h0 (Zj e (Zj h1 h2))) (Zj bD bC) ?_|refine ay ?_|refine aK (Zj h0 (Zj e (Zj h1 h2))) ?_|fail)
   exact .pure .bool
  by_cases h3:b=[]
  ·subst h3
   repeat' (first|refine bS (Zj h0 (Zj e (Zj h1 h2))) (Zj bD bC) ?_|refine ay ?_|refine aK (Zj h0 (Zj e (Zj h1 h2))) ?_|fail)
   exact .pure .bool
  have e3:(b==[])=false:=by simpa using h3
  cases h4:jT s b<;>rw[h4]at cE
  ·repeat' (first|refine bS (Zj h0 (Zj e (Zj h1 (Zj h2 (Zj h3 (Zj e3 h4)))))) (Zj bD (Zj bC (Zj cE rC))) ?_|refine ay ?_|refine aK (Zj h0 (Zj e (Zj h1 (Zj h2 (Zj h3 (Zj e3 h4)))))) ?_|fail)
   rw[e3]
   exact .pure .bool
  ·repeat' (first|refine bS (Zj h0 (Zj e (Zj h1 (Zj h2 (Zj h3 (Zj e3 h4)))))) (Zj bD (Zj bC (Zj cE rC))) ?_|refine ay ?_|refine aK (Zj h0 (Zj e (Zj h1 (Zj h2 (Zj h3 (Zj e3 h4)))))) ?_|fail)
   rw[e3]
   exact .pure .bool
 ·exact .bool
end Go.Proofs.YtjlnoogcggdhkaaGreatDoor.Ho
namespace Go.Proofs.YtjlnoogcggdhkaaGreatDoor.Ho
open Go.VS Go.Hst
attribute [local irreducible] bj au bE aS bz
def n6:List UInt8:=[33,35,36,37,38,39,42,43,45,47,61,63,94,95,96,123,124,125,126,46]
def mO(c:UInt8):Bool:=okB c||decide (c∈n6)
def Eh(w:List UInt8):Bool:=Lib.contains w [46,46]
def l7(l:List UInt8):Bool:=decide (1≤l.length)&&(decide (l.length≤64)&&(!(l.getD 0 0==46)&&(!(l.getD (l.length-1) 0==46)&&(!Eh l&&l.all mO))))
theorem nG{a:UInt8}:((a.toNat:Int)=46)↔a=46:=Vg a 46 46 rfl
theorem O4(l:List UInt8)(hl:l.length≤1000000):ao Tryz.prog 271 [.str l] (.bool (l7 l)):=by
 refine ah Tryz.func271 rfl Tryz.call271 ?_ ?_
 rotate_left 1
 refine af (s':=(.str l:V)::zJ 49) rfl ?_;dsimp only[zJ]
 by_cases h1:l=[]
 ·subst h1
  repeat' (first|refine yk ?_|refine ay ?_|(refine Yb rfl ?_ ?_<;>intro ab<;>(try simp at ab)<;>try exact dc)|refine gm ?_|fail)
  exact .pure .bool
 have cI:0<l.length:=aqj.2 h1
 replace h1: ¬(l.length:Int)<1:=by omega
 by_cases h2:(64:Int)<l.length
 ·repeat' (first|refine b9 (Zj h1 h2) ?_|refine ay ?_|(refine Yb rfl ?_ ?_<;>intro ab<;>(try simp at ab)<;>try exact dc)|refine aK (Zj h1 h2) ?_|fail)
  have:l7 l=false:=by
   have:decide (l.length≤64)=false:=by simp;omega
   simp[l7,this]
  rw[this]
  exact .pure .bool
 have e1:((l.length:Int)-1).toNat=l.length-1:=by omega
 have g0:l.getD 0 0=l[0]'(by omega):=by simp[show 0<l.length by omega]
 have g1:l.getD (l.length-1) 0=l[l.length-1]'(by omega):=by simp[show l.length-1<l.length by omega]
 by_cases h3:((l[0]'(by omega)).toNat:Int)=46
 ·repeat' (first|refine b9 (Zj h1 (Zj h2 h3)) ?_|refine ay ?_|(refine Yb rfl ?_ ?_<;>intro ab<;>(try simp at ab)<;>try exact dc)|refine aK (Zj h1 (Zj h2 h3)) ?_|fail)
  have:l7 l=false:=by
   have:l[0]'(by omega)=46:=nG.1 h3
   rw[l7,g0,this];simp
  rw[this]
  exact .pure .bool
 by_cases h4:((l[l.length-1]'(by omega)).toNat:Int)=46
 ·repeat' (first|refine b9 (Zj h1 (Zj h2 (Zj h3 (Zj h4 e1)))) ?_|refine ay ?_|(refine Yb rfl ?_ ?_<;>intro ab<;>(try simp at ab)<;>try exact dc)|refine aK (Zj h1 (Zj h2 (Zj h3 (Zj h4 e1)))) ?_|fail)
  have:l7 l=false:=by
   have:l[l.length-1]'(by omega)=46:=nG.1 h4
   rw[l7,g0,g1,this];simp
  rw[this]
  exact .pure .bool
 have hk:=yr l [46,46] (by omega)
 have hB:l7 l=(!Eh l&&l.all mO):=by
  have q1:decide (1≤l.length)=true:=by simp;omega
  have q2:decide (l.length≤64)=true:=by simp;omega
  have q3:l[0]'(by omega)≠46:=fun e=>h3 (nG.2 e)
  have q4:l[l.length-1]'(by omega)≠46:=fun e=>h4 (nG.2 e)
  rw[l7,g0,g1,beq_false_of_ne q3,beq_false_of_ne q4,q1,q2];rfl
 rw[hB]
 unfold Eh
 cases h5:Lib.contains l [46,46]<;>rw[h5]at hk
 case true=>
  repeat' (first|refine bS (Zj h1 (Zj h2 (Zj h3 (Zj h4 e1)))) hk ?_|refine ay ?_|(refine Yb rfl ?_ ?_<;>intro ab<;>(try simp at ab)<;>try exact dc)|refine aK (Zj h1 (Zj h2 (Zj h3 (Zj h4 e1)))) ?_|fail)
  exact .pure .bool
 simp only[Bool.not_false,aq9]
 repeat' (first|refine bS (Zj h1 (Zj h2 (Zj h3 (Zj h4 e1)))) hk ?_|refine ay ?_|(refine Yb rfl ?_ ?_<;>intro ab<;>(try simp at ab)<;>try exact dc)|refine aK (Zj h1 (Zj h2 (Zj h3 (Zj h4 e1)))) ?_|fail)
 ·refine bm (α:=Nat) (fun i=>(some V.aa::none::some V.aa::none::zS 28 (zN 2 (some (V.int .i64 i)::zS 15 [])))) (fun i=> [.live (l.map aF)]) (fun i=>i≤l.length∧ ∀j (h:j<l.length),j<i→mO l[j]=true) (fun i=>l.length-i) 0 ⟨by omega,fun j _ h=>by omega⟩ ?_ ?_
  ·dsimp only[aE,zN,zS]
   exact Yr [some 0] (by simp[ae])
  rintro i ⟨hi,hall⟩ KL hL
  dsimp only[aE,zN,zS]
  rcases apQ i l.length with hi|hi
  ·have aP:mO l[i]=true→i+1≤l.length∧ ∀j (h:j<l.length),j<i+1→mO l[j]=true:=fun hx=>⟨by omega,fun j hj h=>by
    rcases apQ j i with h3|h3
    ·exact hall j hj h3
    ·obtain rfl:j=i:=by omega
     exact hx⟩
   have bV:mO l[i]=false→l.all mO=false:=all_false hi
   obtain⟨c,bX⟩: ∃c,l[i]=c:=⟨_,rfl⟩
   rw[bX]at aP bV
   have J9:=nq c
   have Kb:=oZ c
   have O5:=E5 n6 c
   cases bD:IL c<;>rw[bD]at J9
   ·cases bC:IM c<;>rw[bC]at Kb
    ·by_cases cE:0≤Lib.indexByte n6 c
     ·unfold n6 at cE O5
      repeat' (first|((first|refine fc ?_|(refine fU ?_ ?_;(focus (simp[bX,cE];done))));intro K9 h9;simp(disch:=first|exact dd|fail) [bX,cE];refine Zm ?_;((first|refine Ap (J9) ?_|refine Ap (Kb) ?_|refine Ap (O5) ?_|skip)<;>(refine fe h9 ?_;clear h9 K9)))|refine ay ?_|(refine Yb rfl ?_ ?_<;>intro ab<;>(try simp at ab)<;>try exact dc)|refine aK (Zj bX cE) ?_|fail)
      refine hL (i+1) _ _ (aP ?_) (by omega) ?_
      ·have:=(sX c n6).1 cE
       simp[mO,this]
      exact Yr [some 0] (by simp[ae])
     ·have CH: ¬c∈n6:=fun h=>cE ((sX c n6).2 h)
      unfold n6 at cE O5
      repeat' (first|((first|refine fc ?_|(refine fU ?_ ?_;(focus (simp[bX,cE];done))));intro K9 h9;simp(disch:=first|exact dd|fail) [bX,cE];refine Zm ?_;((first|refine Ap (J9) ?_|refine Ap (Kb) ?_|refine Ap (O5) ?_|skip)<;>(refine fe h9 ?_;clear h9 K9)))|refine ay ?_|(refine Yb rfl ?_ ?_<;>intro ab<;>(try simp at ab)<;>try exact dc)|refine aK (Zj bX cE) ?_|fail)
      rw[bV (by simp[mO,v8,bD,bC,CH])]
      exact .pure .bool
    ·repeat' (first|((first|refine fc ?_|(refine fU ?_ ?_;(focus (simp[bX];done))));intro K9 h9;simp(disch:=first|exact dd|fail) [bX];refine Zm ?_;((first|refine Ap (J9) ?_|refine Ap (Kb) ?_|skip)<;>(refine fe h9 ?_;clear h9 K9)))|refine ay ?_|(refine Yb rfl ?_ ?_<;>intro ab<;>(try simp at ab)<;>try exact dc)|refine aK bX ?_|fail)
     refine hL (i+1) _ _ (aP (by simp[mO,v8,bC])) (by omega) ?_
     exact Yr [some 0] (by simp[ae])
   ·repeat' (first|((first|refine fc ?_|(refine fU ?_ ?_;(focus (simp[bX];done))));intro K9 h9;simp(disch:=first|exact dd|fail) [bX];refine Zm ?_;((first|refine Ap (J9) ?_|refine Ap (Kb) ?_|skip)<;>(refine fe h9 ?_;clear h9 K9)))|refine ay ?_|(refine Yb rfl ?_ ?_<;>intro ab<;>(try simp at ab)<;>try exact dc)|refine aK bX ?_|fail)
    refine hL (i+1) _ _ (aP (by simp[mO,v8,bD])) (by omega) ?_
    exact Yr [some 0] (by simp[ae])
  ·repeat' (first|refine yk ?_|refine ay ?_|(refine Yb rfl ?_ ?_<;>intro ab<;>(try simp at ab)<;>try exact dc)|refine gm ?_|fail)
   rw[all_true fun j hj=>hall j hj (by omega)]
   exact .pure .bool
 ·exact .bool
def cD(s:List UInt8):Bool:=decide (64∈s)&&(decide (s.length≤128)&&(l7 (dJ 64 s)&&du (fO 64 s)))
def fj(s:List UInt8):Bool:=decide (s.length≤128)&&(cD s||du (Lib.trimPrefix s [46]))
def qg(a b:List UInt8):Bool:=cD a&&(cD b&&(dJ 64 a==dJ 64 b&&jT (fO 64 a) (fO 64 b)))
def Kc(s:List UInt8):List UInt8:=if 64∈s then fO 64 s else s
def RL(s b:List UInt8):Bool:=jT s b||(b.getD 0 0==46&&yP s b)
def pO(s b:List UInt8):Bool:=fj b&&(fj s&&(if cD b=true then qg s b else RL (Kc s) b))
theorem uX(s:List UInt8)(hs:s.length≤1000000):ao Tryz.prog 231 [.str s] (.bool (cD s)):=by
 refine ah Tryz.func231 rfl Tryz.call231 ?_ ?_
 rotate_left 1
 refine af (s':=(.str s:V)::zJ 25) rfl ?_;dsimp only[zJ]
 have hb:=Wu 64 s
 have ha:=pX 64 s
 have bD:=xe s 64 (by omega)
 have bC:=O4 (dJ 64 s) (by omega)
 have cE:=sP (fO 64 s) (by omega)
 unfold cD
 cases h1:decide (64∈s)<;>rw[h1]at bD
 ·repeat' (first|refine od bD ?_|refine ay ?_|refine gm ?_|fail)
  exact .pure .bool
 by_cases h2:(s.length:Int)≤128
 ·have eX:decide (s.length≤128)=true:=by simp;omega
  rw[eX]
  cases h3:l7 (dJ 64 s)<;>rw[h3]at bC
  ·repeat' (first|refine bS h2 (Zj bD (Zj bC cE)) ?_|refine ay ?_|refine aK h2 ?_|fail)
   exact .pure .bool
  ·repeat' (first|refine bS h2 (Zj bD (Zj bC cE)) ?_|refine ay ?_|refine aK h2 ?_|fail)
   exact .pure .bool
 ·have eX:decide (s.length≤128)=false:=by simp;omega
  rw[eX]
  repeat' (first|refine bS h2 (Zj bD (Zj bC cE)) ?_|refine ay ?_|refine aK h2 ?_|fail)
  exact .pure .bool
 ·exact .bool
theorem Ei(s:List UInt8)(hs:s.length≤1000000):ao Tryz.prog 230 [.str s] (.bool (fj s)):=by
 refine ah Tryz.func230 rfl Tryz.call230 ?_ ?_
 rotate_left 1
 refine af (s':=(.str s:V)::zJ 14) rfl ?_;dsimp only[zJ]
 have hl:=vU s [46]
 have bD:=uX s hs
 have bC:=Dt s [46]
 have cE:=sP (Lib.trimPrefix s [46]) (by omega)
 unfold fj
 by_cases h2:(s.length:Int)≤128
 ·have eX:decide (s.length≤128)=true:=by simp;omega
  rw[eX]
  cases h3:cD s<;>rw[h3]at bD
  ·repeat' (first|refine bS h2 (Zj bD (Zj bC cE)) ?_|refine ay ?_|refine aK h2 ?_|fail)
   exact .pure .bool
  ·repeat' (first|refine bS h2 (Zj bD (Zj bC cE)) ?_|refine ay ?_|refine aK h2 ?_|fail)
   exact .pure .bool
 ·have eX:decide (s.length≤128)=false:=by simp;omega
  rw[eX]
  repeat' (first|refine b9 h2 ?_|refine ay ?_|refine aK h2 ?_|fail)
  exact .pure .bool
 ·exact .bool
theorem L9(a b:List UInt8)(hl1:a.length≤1000000)(F8:b.length≤1000000):ao Tryz.prog 232 [.str a,.str b] (.bool (qg a b)):=by
 refine ah Tryz.func232 rfl Tryz.call232 ?_ ?_
 rotate_left 1
 refine af (s':=(.str a:V)::(.str b:V)::zJ 37) rfl ?_;dsimp only[zJ]
 have ha:=pX 64 a
 have hb:=pX 64 b
 have bD:=uX a hl1
 have bC:=uX b F8
 have cE:=xe a 64 (by omega)
 have rC:=xe b 64 (by omega)
 have kx:=xf (fO 64 a) (fO 64 b) (by omega) (by omega)
 unfold qg
 cases h1:cD a<;>rw[h1]at bD
 ·repeat' (first|refine od bD ?_|refine ay ?_|(refine Yb rfl ?_ ?_<;>intro ab<;>(try simp at ab)<;>try exact dc)|refine gm ?_|fail)
  exact .pure .bool
 cases h2:cD b<;>rw[h2]at bC
 ·repeat' (first|refine od (Zj bD bC) ?_|refine ay ?_|(refine Yb rfl ?_ ?_<;>intro ab<;>(try simp at ab)<;>try exact dc)|refine gm ?_|fail)
  exact .pure .bool
 generalize dJ 64 a=x at*
 generalize dJ 64 b=y at*
 by_cases h3:x=y
 ·subst h3
  repeat' (first|((first|refine fc ?_|(refine fU ?_ ?_;(focus (simp;done))));intro K9 h9;refine Zd ?_;((first|refine Ap bD ?_|refine Ap bC ?_|refine Ap cE ?_|refine Ap rC ?_|refine Ap kx ?_|skip)<;>(refine fe h9 ?_;clear h9 K9)))|refine ay ?_|(refine Yb rfl ?_ ?_<;>intro ab<;>(try simp at ab)<;>try exact dc)|refine gm ?_|fail)
  simp
  exact .pure .bool
 ·have zb:(x==y)=false:=by simpa using h3
  repeat' (first|((first|refine fc ?_|(refine fU ?_ ?_;(focus (simp[h3,zb];done))));intro K9 h9;simp(disch:=first|exact dd|fail) [h3,zb];refine Zm ?_;((first|refine Ap bD ?_|refine Ap bC ?_|refine Ap cE ?_|refine Ap rC ?_|refine Ap kx ?_|skip)<;>(refine fe h9 ?_;clear h9 K9)))|refine ay ?_|(refine Yb rfl ?_ ?_<;>intro ab<;>(try simp at ab)<;>try exact dc)|refine aK (Zj h3 zb) ?_|fail)
  rw[zb]
  exact .pure .bool
 ·exact .bool
end Go.Proofs.YtjlnoogcggdhkaaGreatDoor.Ho
namespace Go.Proofs.YtjlnoogcggdhkaaGreatDoor.Ho
open Go.VS Go.Hst
attribute [local irreducible] bj au bE aS bz
def pr(s:List UInt8):V:=if cD s=true then .aB [.str (dJ 64 s),.str (fO 64 s),.bool true]else .aB [.str [],.str [],.bool false]
theorem aad{s:List UInt8}{k:Nat}(hk:k<s.length)(h:s[k]=64)(hn: ∀j (hj:j<s.length),j<k→s[j]≠64):dJ 64 s=s.take k∧fO 64 s=s.drop (k+1)∧64∈s:=by
 have hm:(64:UInt8)∉s.take k:=by
  intro hm
  obtain⟨j,hj,e⟩:=aqR hm
  simp at hj
  rw[arp]at e
  exact hn j (by omega) (by omega) e
 have hs:s=s.take k++64::s.drop (k+1):=by
  conv=>lhs;rw[←aqE k s,arq hk,h]
 have jP:64∈s:=by rw[←h];exact apY _
 have hb:=Ay 64 s jP
 have hnb:=Az 64 s
 have hlen:(dJ 64 s).length=k:=by
  rcases Nat.lt_trichotomy (dJ 64 s).length k with h1|h1|h1
  ·exfalso
   have h2:(dJ 64 s).length<s.length:=by omega
   have:s[(dJ 64 s).length]=64:=by
    have: ∀(t:List UInt8) (e:t=dJ 64 s++64::fO 64 s) (h:(dJ 64 s).length<t.length),t[(dJ 64 s).length]=64:=by
     rintro t rfl h;simp
    exact this s hb h2
   exact hn _ h2 h1 this
  ·exact h1
  ·exfalso
   apply hnb
   have:s[k]=(dJ 64 s)[k]:=by
    have: ∀(t:List UInt8) (e:t=dJ 64 s++64::fO 64 s) (h:k<t.length),t[k]=(dJ 64 s)[k]:=by
     rintro t rfl h;rw[List.getElem_append_left]
    exact this s hb hk
   have h64:(dJ 64 s)[k]=64:=by rw[←this];exact h
   have I3:(dJ 64 s)[k]∈dJ 64 s:=apY _
   rw[h64]at I3
   exact I3
 have h1:=Cq hb
 have h2:=Cr hb
 rw[hlen]at h1 h2
 exact⟨h1.symm,h2.symm,jP⟩
theorem RM(w:List UInt8):Eh w=true↔ ∃i,∃h:i+1<w.length,w[i]=46∧w[i+1]=46:=by
 unfold Eh Lib.contains
 rw[decide_eq_true_iff]
 induction w with
 |nil=>simp[Lib.index]
 |cons b l ih=>
  unfold Lib.index
  have hg:=Lib.index_ge l [46,46]
  by_cases hp:([46,46]:List UInt8).isPrefixOf (b::l)=true
  ·rw[if_pos hp]
   rw[List.isPrefixOf_iff_prefix]at hp
   obtain⟨t,ht⟩:=hp
   refine⟨fun _=>⟨0,?_,?_⟩,fun _=>by decide⟩
   ·rw[←ht];simp
   ·have h1:=congrArg (fun l:List UInt8=>l[0]?) ht
    have h2:=congrArg (fun l:List UInt8=>l[1]?) ht
    simp at h1 h2
    cases l with
    |nil=>simp at h2
    |cons c l=>simp at h2⊢;exact⟨h1.symm,h2.symm⟩
  ·rw[if_neg hp]
   by_cases hi:Lib.index l [46,46]= -1
   ·have: ¬ ∃i,∃h:i+1<l.length,l[i]=46∧l[i+1]=46:=fun h=>by have:=ih.2 h;omega
    simp only[hi]
    constructor
    ·intro h;exact absurd h (by decide)
    ·rintro⟨i,h,h1,h2⟩
     exfalso
     cases i with
     |zero=>
      apply hp
      rw[List.isPrefixOf_iff_prefix]
      cases l with
      |nil=>simp at h
      |cons c l=>
       simp at h1 h2
       subst h1;subst h2
       exact⟨l,rfl⟩
     |succ i=>exact this ⟨i,by simpa using h,by simpa using h1,by simpa using h2⟩
   ·have cI:0≤Lib.index l [46,46]:=by omega
    rw[if_neg (by simpa using hi)]
    obtain⟨i,h,h1,h2⟩:=ih.1 cI
    exact⟨fun _=>⟨i+1,by simpa using h,by simpa using h1,by simpa using h2⟩,fun _=>by omega⟩
theorem rY(s:List UInt8)(hs:s.length≤1000000):ao Tryz.prog 243 [.str s] (pr s):=by
 refine ah Tryz.func243 rfl Tryz.call243 ?_ ?_
 rotate_left 1
 refine af (s':=(.str s:V)::zJ 90) rfl ?_;dsimp only[zJ]
 by_cases h1:(128:Int)<s.length
 ·repeat' (first|refine b9 h1 ?_|refine ay ?_|(refine Zk 0 [] ?_;refine Zl ?_)|(refine Yb rfl ?_ ?_<;>intro ab<;>(try simp at ab)<;>try exact dc)|refine aK h1 ?_|fail)
  have:cD s=false:=by
   have:decide (s.length≤128)=false:=by simp;omega
   simp[cD,this]
  rw[pr,this]
  exact .pure (by simp)
 repeat' (first|refine b9 h1 ?_|refine ay ?_|(refine Zk 0 [] ?_;refine Zl ?_)|(refine Yb rfl ?_ ?_<;>intro ab<;>(try simp at ab)<;>try exact dc)|refine aK h1 ?_|fail)
 ·refine bm (α:=Nat) (fun i=>(zN 2 (zS 3 (some (V.int .i64 i)::zS 85 [])))) (fun i=> []) (fun i=>i≤s.length∧ ∀j (h:j<s.length),j<i→s[j]≠64) (fun i=>s.length-i) 0 ⟨by omega,fun j _ h=>by omega⟩ ?_ ?_
  ·dsimp only[aE,zN,zS]
   exact Yr [] (by simp[ae])
  rintro k ⟨hk,hall⟩ KL hL
  dsimp only[aE,zN,zS]
  have no:cD s=false→pr s=.aB [.str [],.str [],.bool false]:=fun h=>by rw[pr,h];rfl
  rcases apQ k s.length with hk|hk
  rotate_left 1
  ·obtain rfl:k=s.length:=by omega
   have dT:cD s=false:=by
    have: ¬64∈s:=fun hm=>by
     obtain⟨j,hj,e⟩:=aqR hm
     exact hall j hj hj e
    simp[cD,this]
   have dT:=no dT
   by_cases h2:(s.length:Int)<1
   ·repeat' (first|refine b9 h2 ?_|refine ay ?_|(refine Zk 0 [] ?_;refine Zl ?_)|(refine Yb rfl ?_ ?_<;>intro ab<;>(try simp at ab)<;>try exact dc)|refine aK h2 ?_|fail)
    rw[dT]
    simp
    exact .pure (by simp)
   by_cases h3:(64:Int)<s.length
   ·repeat' (first|refine b9 (Zj h2 h3) ?_|refine ay ?_|(refine Zk 0 [] ?_;refine Zl ?_)|(refine Yb rfl ?_ ?_<;>intro ab<;>(try simp at ab)<;>try exact dc)|refine aK (Zj h2 h3) ?_|fail)
    rw[dT]
    simp
    exact .pure (by simp)
   ·repeat' (first|refine b9 (Zj h2 h3) ?_|refine ay ?_|(refine Zk 0 [] ?_;refine Zl ?_)|(refine Yb rfl ?_ ?_<;>intro ab<;>(try simp at ab)<;>try exact dc)|refine aK (Zj h2 h3) ?_|fail)
    rw[dT]
    simp
    exact .pure (by simp)
  by_cases hx:s[k]=64
  rotate_left 1
  ·have fp: ¬((s[k].toNat:Int)=64):=fun e=>hx ((Vg _ 64 64 rfl).1 e)
   repeat' (first|refine b9 (Zj hk fp) ?_|refine ay ?_|(refine Zk 0 [] ?_;refine Zl ?_)|(refine Yb rfl ?_ ?_<;>intro ab<;>(try simp at ab)<;>try exact dc)|refine aK (Zj hk fp) ?_|fail)
   refine hL (k+1) _ _ ⟨by omega,fun j hj h=>?_⟩ (by omega) ?_
   ·rcases apQ j k with h3|h3
    ·exact hall j hj h3
    ·obtain rfl:j=k:=by omega
     exact hx
   ·exact Yr [] (by simp[ae])
  have fp:((s[k].toNat:Int)=64):=by rw[hx];rfl
  obtain⟨aae,aaf,jP⟩:=aad hk hx hall
  have xS:cD s=(l7 (s.take k)&&du (s.drop (k+1))):=by
   have q1:decide (s.length≤128)=true:=by simp;omega
   have q2:decide (64∈s)=true:=by simpa using jP
   rw[cD,q1,q2,aae,aaf];rfl
  have vW:(s.take k).length=k:=by simp;omega
  by_cases h2:k=0
  ·subst h2
   have dT:=no (by rw[xS];rfl)
   repeat' (first|refine b9 (Zj hk fp) ?_|refine ay ?_|(refine Zk 0 [] ?_;refine Zl ?_)|(refine Yb rfl ?_ ?_<;>intro ab<;>(try simp at ab)<;>try exact dc)|refine aK (Zj hk fp) ?_|fail)
   rw[dT]
   simp
   exact .pure (by simp)
  have eX: ¬(k:Int)<1:=by omega
  by_cases h3:(64:Int)<k
  ·have dT:=no (by
    have:decide ((s.take k).length≤64)=false:=by rw[vW];simp;omega
    rw[xS,l7,this];simp)
   repeat' (first|refine b9 (Zj hk (Zj fp (Zj eX h3))) ?_|refine ay ?_|(refine Zk 0 [] ?_;refine Zl ?_)|(refine Yb rfl ?_ ?_<;>intro ab<;>(try simp at ab)<;>try exact dc)|refine aK (Zj hk (Zj fp (Zj eX h3))) ?_|fail)
   rw[dT]
   simp
   exact .pure (by simp)
  have h4: ¬(k:Int)=s.length:=by omega
  have ek:((k:Int)+1).toNat=k+1:=by omega
  have VI:((k:Int)-1).toNat=k-1:=by omega
  have hd:=oh (s.drop (k+1)) (by simp;omega)
  cases h5:du (s.drop (k+1))<;>rw[h5]at hd
  ·have dT:=no (by rw[xS,h5];simp)
   repeat' (first|refine bS (Zj hk (Zj fp (Zj eX (Zj h3 (Zj h4 (Zj ek @apR.{0})))))) hd ?_|refine ay ?_|(refine Zk 0 [] ?_;refine Zl ?_)|(refine Yb rfl ?_ ?_<;>intro ab<;>(try simp at ab)<;>try exact dc)|refine aK (Zj hk (Zj fp (Zj eX (Zj h3 (Zj h4 (Zj ek @apR.{0})))))) ?_|fail)
   rw[dT]
   simp
   exact .pure (by simp)
  rw[h5,Bool.and_true]at xS
  have cI:0<s.length:=by omega
  have g0:(s.take k).getD 0 0=s[0]'cI:=by
   rw[ap2,ap5 (by omega)];simp
  have g1:(s.take k).getD ((s.take k).length-1) 0=s[k-1]'(by omega):=by
   rw[vW,ap2,ap5 (by omega)];simp
  by_cases h6:((s[0]'cI).toNat:Int)=46
  ·have dT:=no (by
    have:s[0]'cI=46:=nG.1 h6
    rw[xS,l7,g0,this];simp)
   repeat' (first|refine bS (Zj hk (Zj fp (Zj eX (Zj h3 (Zj h4 (Zj ek (Zj h6 @apR.{0}))))))) hd ?_|refine ay ?_|(refine Zk 0 [] ?_;refine Zl ?_)|(refine Yb rfl ?_ ?_<;>intro ab<;>(try simp at ab)<;>try exact dc)|refine aK (Zj hk (Zj fp (Zj eX (Zj h3 (Zj h4 (Zj ek (Zj h6 @apR.{0}))))))) ?_|fail)
   rw[dT]
   simp
   exact .pure (by simp)
  by_cases h7:((s[k-1]'(by omega)).toNat:Int)=46
  ·have dT:=no (by
    have:s[k-1]'(by omega)=46:=nG.1 h7
    rw[xS,l7,g0,g1,this];simp)
   repeat' (first|refine bS (Zj hk (Zj fp (Zj eX (Zj h3 (Zj h4 (Zj ek (Zj VI (Zj h6 (Zj h7 @apR.{0}))))))))) hd ?_|refine ay ?_|(refine Zk 0 [] ?_;refine Zl ?_)|(refine Yb rfl ?_ ?_<;>intro ab<;>(try simp at ab)<;>try exact dc)|refine aK (Zj hk (Zj fp (Zj eX (Zj h3 (Zj h4 (Zj ek (Zj VI (Zj h6 (Zj h7 @apR.{0}))))))))) ?_|fail)
   rw[dT]
   simp
   exact .pure (by simp)
  have hB:cD s=(!Eh (s.take k)&&(s.take k).all mO):=by
   have q1:decide (1≤(s.take k).length)=true:=by rw[vW];simp;omega
   have q2:decide ((s.take k).length≤64)=true:=by rw[vW];simp;omega
   have q3:s[0]'(by omega)≠46:=fun e=>h6 (nG.2 e)
   have q4:s[k-1]'(by omega)≠46:=fun e=>h7 (nG.2 e)
   rw[xS,l7,g0,g1,beq_false_of_ne q3,beq_false_of_ne q4,q1,q2];rfl
  repeat' (first|refine bS (Zj hk (Zj fp (Zj eX (Zj h3 (Zj h4 (Zj ek (Zj VI (Zj h6 (Zj h7 @apR.{0}))))))))) hd ?_|refine ay ?_|(refine Zk 0 [] ?_;refine Zl ?_)|(refine Yb rfl ?_ ?_<;>intro ab<;>(try simp at ab)<;>try exact dc)|refine aK (Zj hk (Zj fp (Zj eX (Zj h3 (Zj h4 (Zj ek (Zj VI (Zj h6 (Zj h7 @apR.{0}))))))))) ?_|fail)
  refine bm (α:=Nat) (fun i=>(zN 2 (zS 3 (none::some (V.int .i64 i)::zS 84 [])))) (fun i=> []) (fun i=>i≤k∧ ∀j (h:j<s.length),j<i→mO s[j]=true∧ ¬(s[j]=46∧s.getD (j+1) 0=46)) (fun i=>k-i) 0 ⟨by omega,fun j _ h=>by omega⟩ ?_ ?_
  ·dsimp only[aE,zN,zS]
   exact Yr [] (by simp[ae])
  rintro i ⟨hi,lp⟩ YD pJ
  dsimp only[aE,zN,zS]
  rcases apQ i k with hi|hi
  ·have his:i<s.length:=by omega
   have afZ:i+1<s.length:=by omega
   have ei:((i:Int)+1).toNat=i+1:=by omega
   have hgd:s.getD (i+1) 0=s[i+1]:=by rw[ap2,ap5 afZ];rfl
   have aP:mO s[i]=true→ ¬(s[i]=46∧s[i+1]=46)→i+1≤k∧ ∀j (h:j<s.length),j<i+1→mO s[j]=true∧ ¬(s[j]=46∧s.getD (j+1) 0=46):=fun hx hy=>⟨by omega,fun j hj h=>by
    rcases apQ j i with h3|h3
    ·exact lp j hj h3
    ·obtain rfl:j=i:=by omega
     rw[hgd]
     exact⟨hx,hy⟩⟩
   have bV:mO s[i]=false→cD s=false:=fun h=>by
    have:(s.take k).all mO=false:=by
     refine all_false (i:=i) (by omega) ?_
     rw[arp];exact h
    rw[hB,this];simp
   have jm:s[i]=46→s[i+1]=46→cD s=false:=fun ha hb=>by
    have:Eh (s.take k)=true:=by
     refine(RM _).2 ⟨i,?_,?_,?_⟩
     ·rw[vW]
      rcases apQ (i+1) k with h|h
      ·exact h
      ·have:i+1=k:=by omega
       subst this
       rw[hx]at hb;cases hb
     ·rw[arp];exact ha
     ·rw[arp];exact hb
    rw[hB,this];rfl
   obtain⟨c,bX⟩: ∃c,s[i]=c:=⟨_,rfl⟩
   obtain⟨c2,CP⟩: ∃c,s[i+1]=c:=⟨_,rfl⟩
   rw[bX]at aP bV jm
   rw[CP]at aP jm
   have ha:=oV c
   have hb:=Du c n6 (by decide)
   have fin:mO c=true→ ¬(c=46∧c2=46)→YD=YD:=fun _ _=>rfl
   by_cases O6:c=46
   ·subst O6
    have uC:ao Tryz.prog 254 [.int .u8 46] (.bool false):=oV 46
    have gF:ao Tryz.prog 255 [.int .u8 46,.str n6] (.bool true):=Du 46 n6 (by decide)
    unfold n6 at gF
    by_cases bC:(c2.toNat:Int)=46
    ·repeat' (first|((first|refine fc ?_|(refine fU ?_ ?_;(focus (simp[bX,CP,ei,bC];done))));intro K9 h9;simp(disch:=first|exact dd|fail) [bX,CP,ei,bC];refine Zm ?_;((first|refine Ap (uC) ?_|refine Ap (gF) ?_|skip)<;>(refine fe h9 ?_;clear h9 K9)))|refine ay ?_|(refine Zk 0 [] ?_;refine Zl ?_)|(refine Yb rfl ?_ ?_<;>intro ab<;>(try simp at ab)<;>try exact dc)|refine aK (Zj bX (Zj CP (Zj ei bC))) ?_|fail)
     rw[no (jm rfl (nG.1 bC))]
     simp
     exact .pure (by simp)
    ·repeat' (first|((first|refine fc ?_|(refine fU ?_ ?_;(focus (simp[bX,CP,ei,bC];done))));intro K9 h9;simp(disch:=first|exact dd|fail) [bX,CP,ei,bC];refine Zm ?_;((first|refine Ap (uC) ?_|refine Ap (gF) ?_|skip)<;>(refine fe h9 ?_;clear h9 K9)))|refine ay ?_|(refine Zk 0 [] ?_;refine Zl ?_)|(refine Yb rfl ?_ ?_<;>intro ab<;>(try simp at ab)<;>try exact dc)|refine aK (Zj bX (Zj CP (Zj ei bC))) ?_|fail)
     refine pJ (i+1) _ _ (aP (by decide) (fun h=>bC (nG.2 h.2))) (by omega) ?_
     exact Yr [] (by simp[ae])
   have AZ: ¬(c.toNat:Int)=46:=fun e=>O6 (nG.1 e)
   cases bD:okB c<;>rw[bD]at ha
   ·by_cases hm:c∈n6
    ·rw[decide_eq_true hm]at hb
     unfold n6 at hb
     repeat' (first|refine bS (Zj bX AZ) (Zj ha hb) ?_|refine ay ?_|(refine Zk 0 [] ?_;refine Zl ?_)|(refine Yb rfl ?_ ?_<;>intro ab<;>(try simp at ab)<;>try exact dc)|refine aK (Zj bX AZ) ?_|fail)
     refine pJ (i+1) _ _ (aP (by simp[mO,hm]) (fun h=>O6 h.1)) (by omega) ?_
     exact Yr [] (by simp[ae])
    ·rw[decide_eq_false hm]at hb
     have dT:=no (bV (by simp[mO,bD,hm]))
     unfold n6 at hb
     repeat' (first|refine bS (Zj bX AZ) (Zj ha hb) ?_|refine ay ?_|(refine Zk 0 [] ?_;refine Zl ?_)|(refine Yb rfl ?_ ?_<;>intro ab<;>(try simp at ab)<;>try exact dc)|refine aK (Zj bX AZ) ?_|fail)
     rw[dT]
     simp
     exact .pure (by simp)
   ·repeat' (first|refine bS (Zj bX AZ) ha ?_|refine ay ?_|(refine Zk 0 [] ?_;refine Zl ?_)|(refine Yb rfl ?_ ?_<;>intro ab<;>(try simp at ab)<;>try exact dc)|refine aK (Zj bX AZ) ?_|fail)
    refine pJ (i+1) _ _ (aP (by simp[mO,bD]) (fun h=>O6 h.1)) (by omega) ?_
    exact Yr [] (by simp[ae])
  ·obtain rfl:i=k:=by omega
   have af0:cD s=true:=by
    have q1:(s.take i).all mO=true:=all_true fun j hj=>by
     rw[arp]
     exact(lp j (by omega) (by omega)).1
    have q2:Eh (s.take i)=false:=by
     cases h:Eh (s.take i)with
     |false=>rfl
     |true=>
      exfalso
      obtain⟨j,hj,h8,h9⟩:=(RM _).1 h
      rw[arp]at h8 h9
      refine(lp j (by omega) (by omega)).2 ⟨h8,?_⟩
      rw[ap2,ap5 (by omega)]
      exact h9
    rw[hB,q1,q2];rfl
   repeat' (first|refine b9 (Zj ek @apR.{0}) ?_|refine ay ?_|(refine Zk 0 [] ?_;refine Zl ?_)|(refine Yb rfl ?_ ?_<;>intro ab<;>(try simp at ab)<;>try exact dc)|refine aK (Zj ek @apR.{0}) ?_|fail)
   rw[pr,if_pos af0,aae,aaf]
   simp[apR]
   exact .pure (by simp)
 ·unfold pr;split<;>simp
end Go.Proofs.YtjlnoogcggdhkaaGreatDoor.Ho
namespace Go.Proofs.YtjlnoogcggdhkaaGreatDoor.Ho
open Go.VS Go.Hst
attribute [local irreducible] bj au bE aS bz
theorem Kd(l:List UInt8):Lib.trimPrefix (46::l) [46]=l:=by
 unfold Lib.trimPrefix Lib.hasPrefix
 rw[if_pos (by simp[List.isPrefixOf])];rfl
theorem Ke{s:List UInt8}(h:s.getD 0 0≠46):Lib.trimPrefix s [46]=s:=by
 unfold Lib.trimPrefix Lib.hasPrefix
 cases s with
 |nil=>rfl
 |cons a l=>
  have:a≠46:=by simpa using h
  rw[if_neg (by simp[List.isPrefixOf];exact fun e=>this e.symm)]
theorem xT{s:List UInt8}(h:cD s=true):64∈s∧s.length≤128∧l7 (dJ 64 s)=true∧du (fO 64 s)=true:=by
 simp only[cD,apP,decide_eq_true_eq]at h
 exact h
theorem aag{s:List UInt8}(h:du s=true):s≠ []:=by rintro rfl;exact absurd h (by decide)
theorem Kf{s:List UInt8}(h:du s=true): ¬64∈s:=fun hm=>by rw[MK 64 (by decide) (by decide) hm]at h;cases h
theorem W1{s:List UInt8}(h:du s=true):s.length≤128:=(yO h).1
theorem RN{s:List UInt8}(h:cD s=true):fj s=true:=by
 have:=(xT h).2.1
 simp[fj,h,this]
theorem Ma{s:List UInt8}(h:fj s=true):cD s=true∨(cD s=false∧((du s=true∧s.getD 0 0≠46)∨ ∃d,s=46::d∧du d=true)):=by
 simp only[fj,apP,decide_eq_true_eq,aqe]at h
 cases hm:cD s with
 |true=>exact .inl rfl
 |false=>
  refine .inr ⟨rfl,?_⟩
  have hd:=h.2.resolve_left (by simp[hm])
  by_cases h0:s.getD 0 0=46
  ·right
   cases s with
   |nil=>simp at h0
   |cons a l=>
    have:a=46:=by simpa using h0
    subst this
    rw[Kd]at hd
    exact⟨l,rfl,hd⟩
  ·rw[Ke h0]at hd
   exact .inl ⟨hd,h0⟩
theorem Kg{s:List UInt8}(h:fj s=true):s≠ []:=by
 rintro rfl;exact absurd h (by decide)
theorem O7{s:List UInt8}(h:fj s=true)(hm:cD s=false): ¬64∈s:=by
 rcases Ma h with hd|⟨-,⟨hd,-⟩|⟨d,rfl,hd⟩⟩
 ·rw[hm]at hd;cases hd
 ·exact Kf hd
 ·intro h2
  rcases ap8.1 h2 with h2|h2
  ·cases h2
  ·exact Kf hd h2
def FC(s:List UInt8):Bool:=cD s||(du s||(decide (s.length≤128)&&(decide (1<s.length)&&(s.getD 0 0==46&&du (s.drop 1)))))
theorem RO(s:List UInt8):FC s=fj s:=by
 unfold FC fj
 cases hm:cD s
 ·simp only[arG]
  by_cases h0:s.getD 0 0=46
  ·cases s with
   |nil=>simp at h0
   |cons a l=>
    have:a=46:=by simpa using h0
    subst this
    rw[Wc,Kd]
    simp only[arG,arH,List.drop_succ_cons,List.drop_zero]
    cases hd:du l
    ·simp
    ·have hp:=aqj.2 (aag hd)
     have:decide (1<(46::l:List UInt8).length)=true:=by simp;omega
     rw[this]
     simp
  ·rw[Ke h0]
   have:(s.getD 0 0==46)=false:=beq_false_of_ne h0
   rw[this]
   cases hd:du s
   ·simp
   ·have:=W1 hd
    simp[this]
 ·have:=(xT hm).2.1
  simp[this]
def zO(s b:List UInt8):Bool:=fj b&&(if cD s=true then(if cD b=true then qg s b else RL (fO 64 s) b)else fj s&&(!cD b&&RL s b))
theorem Mb(s b:List UInt8):zO s b=pO s b:=by
 unfold zO pO
 cases hb:fj b
 ·rfl
 simp only[aq9]
 cases hm:cD s
 ·cases hs:fj s
  ·simp
  ·have dT:=O7 hs hm
   cases hmb:cD b
   ·simp[Kc,dT]
   ·simp[qg,hm]
 ·have h1:=RN hm
  have h2:=(xT hm).1
  simp[h1,Kc,h2]
end Go.Proofs.YtjlnoogcggdhkaaGreatDoor.Ho
namespace Go.Proofs.YtjlnoogcggdhkaaGreatDoor.Ho
open Go.VS Go.Hst
attribute [local irreducible] bj au bE aS bz
theorem IB(s b:List UInt8)(hs:s.length≤1000000)(hb:b.length≤1000000):ao Tryz.prog 198 [.str s,.str b] (.bool (pO s b)):=by
 refine ah Tryz.func198 rfl Tryz.call198 ?_ ?_
 rotate_left 1
 refine af (s':=(.str s:V)::(.str b:V)::zJ 40) rfl ?_;dsimp only[zJ]
 have ha:=pX 64 s
 have bD:=Ei b hb
 have bC:=Ei s hs
 have cE:=uX b hb
 have rC:=L9 s b hs hb
 have kx:=xe s 64 (by omega)
 unfold pO
 cases h1:fj b<;>rw[h1]at bD
 ·repeat' (first|refine od bD ?_|refine ay ?_|(refine Yb rfl ?_ ?_<;>intro ab<;>(try simp at ab)<;>try exact dc)|refine gm ?_|fail)
  exact .pure .bool
 cases h2:fj s<;>rw[h2]at bC
 ·repeat' (first|refine od (Zj bD bC) ?_|refine ay ?_|(refine Yb rfl ?_ ?_<;>intro ab<;>(try simp at ab)<;>try exact dc)|refine gm ?_|fail)
  exact .pure .bool
 cases h3:cD b<;>rw[h3]at cE
 case true=>
  repeat' (first|refine od (Zj bD (Zj bC (Zj cE rC))) ?_|refine ay ?_|(refine Yb rfl ?_ ?_<;>intro ab<;>(try simp at ab)<;>try exact dc)|refine gm ?_|fail)
  exact .pure .bool
 have cI:0<b.length:=aqj.2 (Kg h1)
 have g0:b.getD 0 0=b[0]'cI:=by simp[cI]
 simp only[aq9,aqo,if_false]
 unfold RL
 rw[g0]
 have fin: ∀d:List UInt8,d.length≤1000000→ao Tryz.prog 234 [.str d,.str b] (.bool (jT d b))∧ao Tryz.prog 235 [.str d,.str b] (.bool (yP d b)):=fun d hd=>⟨xf d b (by omega) (by omega),Gs d b (by omega) (by omega)⟩
 by_cases h4:64∈s
 ·rw[decide_eq_true h4]at kx
  have Ui:Kc s=fO 64 s:=if_pos h4
  rw[Ui]
  obtain⟨f1,f2⟩:=fin (fO 64 s) (by omega)
  cases h5:jT (fO 64 s) b<;>rw[h5]at f1
  case true=>
   repeat' (first|((first|refine fc ?_|(refine fU ?_ ?_;(focus (simp;done))));intro K9 h9;refine Zd ?_;((first|refine Ap bD ?_|refine Ap bC ?_|refine Ap cE ?_|refine Ap kx ?_|refine Ap f1 ?_|skip)<;>(refine fe h9 ?_;clear h9 K9)))|refine ay ?_|(refine Yb rfl ?_ ?_<;>intro ab<;>(try simp at ab)<;>try exact dc)|refine gm ?_|fail)
   exact .pure .bool
  by_cases h6:((b[0]'cI).toNat:Int)=46
  ·have oF:b[0]'cI=46:=nG.1 h6
   repeat' (first|((first|refine fc ?_|(refine fU ?_ ?_;(focus (simp[h6];done))));intro K9 h9;simp(disch:=first|exact dd|fail) [h6];refine Zm ?_;((first|refine Ap bD ?_|refine Ap bC ?_|refine Ap cE ?_|refine Ap kx ?_|refine Ap f1 ?_|refine Ap f2 ?_|skip)<;>(refine fe h9 ?_;clear h9 K9)))|refine ay ?_|(refine Yb rfl ?_ ?_<;>intro ab<;>(try simp at ab)<;>try exact dc)|refine aK h6 ?_|fail)
   rw[oF]
   exact .pure .bool
  ·have oF:(b[0]'cI==46)=false:=beq_false_of_ne fun e=>h6 (nG.2 e)
   repeat' (first|((first|refine fc ?_|(refine fU ?_ ?_;(focus (simp[h6];done))));intro K9 h9;simp(disch:=first|exact dd|fail) [h6];refine Zm ?_;((first|refine Ap bD ?_|refine Ap bC ?_|refine Ap cE ?_|refine Ap kx ?_|refine Ap f1 ?_|refine Ap f2 ?_|skip)<;>(refine fe h9 ?_;clear h9 K9)))|refine ay ?_|(refine Yb rfl ?_ ?_<;>intro ab<;>(try simp at ab)<;>try exact dc)|refine aK h6 ?_|fail)
   rw[oF]
   exact .pure .bool
 ·rw[decide_eq_false h4]at kx
  have Ui:Kc s=s:=if_neg h4
  rw[Ui]
  obtain⟨f1,f2⟩:=fin s hs
  cases h5:jT s b<;>rw[h5]at f1
  case true=>
   repeat' (first|((first|refine fc ?_|(refine fU ?_ ?_;(focus (simp;done))));intro K9 h9;refine Zd ?_;((first|refine Ap bD ?_|refine Ap bC ?_|refine Ap cE ?_|refine Ap kx ?_|refine Ap f1 ?_|skip)<;>(refine fe h9 ?_;clear h9 K9)))|refine ay ?_|(refine Yb rfl ?_ ?_<;>intro ab<;>(try simp at ab)<;>try exact dc)|refine gm ?_|fail)
   exact .pure .bool
  by_cases h6:((b[0]'cI).toNat:Int)=46
  ·have oF:b[0]'cI=46:=nG.1 h6
   repeat' (first|((first|refine fc ?_|(refine fU ?_ ?_;(focus (simp[h6];done))));intro K9 h9;simp(disch:=first|exact dd|fail) [h6];refine Zm ?_;((first|refine Ap bD ?_|refine Ap bC ?_|refine Ap cE ?_|refine Ap kx ?_|refine Ap f1 ?_|refine Ap f2 ?_|skip)<;>(refine fe h9 ?_;clear h9 K9)))|refine ay ?_|(refine Yb rfl ?_ ?_<;>intro ab<;>(try simp at ab)<;>try exact dc)|refine aK h6 ?_|fail)
   rw[oF]
   exact .pure .bool
  ·have oF:(b[0]'cI==46)=false:=beq_false_of_ne fun e=>h6 (nG.2 e)
   repeat' (first|((first|refine fc ?_|(refine fU ?_ ?_;(focus (simp[h6];done))));intro K9 h9;simp(disch:=first|exact dd|fail) [h6];refine Zm ?_;((first|refine Ap bD ?_|refine Ap bC ?_|refine Ap cE ?_|refine Ap kx ?_|refine Ap f1 ?_|refine Ap f2 ?_|skip)<;>(refine fe h9 ?_;clear h9 K9)))|refine ay ?_|(refine Yb rfl ?_ ?_<;>intro ab<;>(try simp at ab)<;>try exact dc)|refine aK h6 ?_|fail)
   rw[oF]
   exact .pure .bool
 ·exact .bool
end Go.Proofs.YtjlnoogcggdhkaaGreatDoor.Ho
