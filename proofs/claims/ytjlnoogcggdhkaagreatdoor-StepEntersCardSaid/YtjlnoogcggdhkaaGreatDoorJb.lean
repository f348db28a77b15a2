/-
 HOST: DNS names; Split.
 Conditions: none.
-/
import Derived.Test.YtjlnoogcggdhkaaGreatDoorJa
set_option maxRecDepth 100000
set_option maxHeartbeats 32000000
set_option linter.all false
namespace Go.Proofs.YtjlnoogcggdhkaaGreatDoor.Ho
open Go.VS Go.Hst
attribute [local irreducible] bj au bE aS bz
def du(s:List UInt8):Bool:=decide (s.length≤128)&&(cq 46 s).all c9
theorem De{α:Type}{l:List α}{p:α→Bool}{i:Nat}(hi:i<l.length)(h:p l[i]=false):l.all p=false:=by
 rw[arz]
 exact⟨l[i],apY _,by simp[h]⟩
theorem Ga{α:Type}{l:List α}{p:α→Bool}(h: ∀j (h:j<l.length),p l[j]=true):l.all p=true:=by
 rw[ap1]
 intro x hx
 obtain⟨j,hj,rfl⟩:=aqR hx
 exact h j hj
theorem sP(s:List UInt8)(hs:s.length≤4294967280):ao Tryz.prog 269 [.str s] (.bool (du s)):=by
 refine ah Tryz.func269 rfl Tryz.call269 ?_ ?_
 rotate_left 1
 refine af (s':=(.str s:V)::zJ 18) rfl ?_;dsimp only[zJ]
 by_cases h1:(128:Int)<s.length
 ·repeat' (first|refine Z0 h1 ?_|refine Zt ?_|(refine Yb rfl ?_ ?_<;>intro ab<;>(try simp at ab)<;>try exact dc))
  have:du s=false:=by
   have:decide (s.length≤128)=false:=by simp;omega
   simp[du,this]
  rw[this]
  exact .pure .bool
 have YC:du s=(cq 46 s).all c9:=by
  have:decide (s.length≤128)=true:=by simp;omega
  simp[du,this]
 rw[YC]
 have fB:=NZ s 46 hs
 have hlen:=oU 46 s
 have Tj:s.count 46≤s.length:=List.count_le_length
 have rq:=lE 46 s
 generalize cq 46 s=L at*
 have hLl:L.length≤4294967281:=by omega
 repeat' (first|refine Z1 h1 fB ?_|refine Zt ?_|(refine Yb rfl ?_ ?_<;>intro ab<;>(try simp at ab)<;>try exact dc))
 ·refine bm (α:=Nat) (fun i=>(some V.aa::none::some V.aa::none::zS 5 (zN 2 (some (V.int .i64 i)::zS 7 [])))) (fun i=> []) (fun i=>i≤L.length∧ ∀j (h:j<L.length),j<i→c9 L[j]=true) (fun i=>L.length-i) 0 ⟨by omega,fun j _ h=>by omega⟩ ?_ ?_
  ·dsimp only[aE,zN,zS]
   exact Yr [] (by simp[ae])
  rintro i ⟨hi,hall⟩ KL hL
  dsimp only[aE,zN,zS]
  rcases apQ i L.length with hi|hi
  ·have aP:c9 L[i]=true→i+1≤L.length∧ ∀j (h:j<L.length),j<i+1→c9 L[j]=true:=fun hx=>⟨by omega,fun j hj h=>by
    rcases apQ j i with h3|h3
    ·exact hall j hj h3
    ·obtain rfl:j=i:=by omega
     exact hx⟩
   have bV:c9 L[i]=false→L.all c9=false:=De hi
   obtain⟨x,dY⟩: ∃x,L[i]=x:=⟨_,rfl⟩
   have MJ:x.length≤4294967280:=by
    have:=(rq x (by rw[←dY];exact apY _)).2
    omega
   rw[dY]at aP bV
   cases hx:c9 x
   ·repeat' (first|(refine Zu ?_;intro K9 h9;simp(disch:=first|exact dd|fail) [dY,hx];refine Zm ?_;((first|refine Ap (Df x MJ) ?_|skip)<;>(refine Zf h9 ?_;clear h9 K9)))|refine Zt ?_|(refine Yb rfl ?_ ?_<;>intro ab<;>(try simp at ab)<;>try exact dc))
    rw[bV hx]
    exact .pure .bool
   ·repeat' (first|(refine Zu ?_;intro K9 h9;simp(disch:=first|exact dd|fail) [dY,hx];refine Zm ?_;((first|refine Ap (Df x MJ) ?_|skip)<;>(refine Zf h9 ?_;clear h9 K9)))|refine Zt ?_|(refine Yb rfl ?_ ?_<;>intro ab<;>(try simp at ab)<;>try exact dc))
    refine hL (i+1) _ _ (aP hx) (by omega) ?_
    exact Yr [] (by simp[ae])
  ·repeat' (first|refine Zq ?_|refine Zt ?_|(refine Yb rfl ?_ ?_<;>intro ab<;>(try simp at ab)<;>try exact dc))
   rw[Ga fun j hj=>hall j hj (by omega)]
   exact .pure .bool
 ·exact .bool
structure SpH (c : UInt8) (s : List UInt8) (x : List (List UInt8) × Nat × Nat) : Prop where
 anz:x.2.2≤s.length+1
 anA:x.2.1≤x.2.2
 anB:x.1.length≤x.2.2
 run:x.2.2≤s.length→x.1++cq c (s.drop x.2.1)=cq c s∧c∉(s.drop x.2.1).take (x.2.2-x.2.1)
 fin:x.2.2=s.length+1→x.1=cq c s
theorem Qg{s:List UInt8}{a i:Nat}(ha:a≤i)(hi:i<s.length):(s.drop a).take (i+1-a)=(s.drop a).take (i-a)++[s[i]]:=by
 rw[show i+1-a=(i-a)+1 by omega,aqA (by simp;omega)]
 simp[show a+(i-a)=i by omega]
theorem Wa{s:List UInt8}{a i:Nat}(ha:a≤i)(hi:i<s.length):s.drop a=(s.drop a).take (i-a)++s[i]::s.drop (i+1):=by
 conv=>lhs;rw[←aqE (i-a) (s.drop a)]
 rw[aq3,show a+(i-a)=i by omega,arq hi]
theorem Bw(s:List UInt8)(c:UInt8)(hs:s.length≤1000000):ao Tryz.prog 280 [.str s,aF c] (.sl (cq c s).length ((cq c s).map V.str)):=by
 refine ah Tryz.func280 rfl Tryz.call280 ?_ ?_
 rotate_left 1
 refine af (s':=(.str s:V)::(aF c:V)::zJ 33) rfl ?_;dsimp only[zJ]
 simp only[aF]
 repeat' (first|refine Zr ?_|refine Zt ?_|(refine Yb rfl ?_ ?_<;>intro ab<;>(try simp at ab)<;>try exact dc)|refine Zo ?_|fail)
 ·refine bm (α:=List (List UInt8)×Nat×Nat) (fun x=>(zN 4 (some V.aa::some (V.av 0 0 x.1.length 1)::some (V.int .i64 x.2.1)::some (V.int .i64 x.2.2)::zS 27 []))) (fun x=> [.live (x.1.map V.str)]) (SpH c s) (fun x=>s.length+1-x.2.2) ([],0,0)
   ⟨by simp,by simp,by simp,fun _=>by simp,fun h=>by simp at h⟩ ?_ ?_
  ·dsimp only[aE,zN,zS]
   exact Yr [none] (by simp[ae])
  rintro⟨out,a,i⟩ ⟨hi,ha,hn,pU,It⟩ KL hL
  dsimp only at hi ha hn pU It
  dsimp only[aE,zN,zS]
  rcases apQ s.length i with hgt|hi
  ·obtain rfl:=It (by omega)
   repeat' (first|refine Z3 (Zj @cS @apR.{0}) ?_|refine Zt ?_|(refine Yb rfl ?_ ?_<;>intro ab<;>(try simp at ab)<;>try exact dc)|refine Z6 (Zj @cS @apR.{0}) ?_|fail)
   simp[apR]
   exact bK rfl (by simp) (by simp)
  obtain⟨hr,dT⟩:=pU hi
  have N0:((s.drop a).take (i-a)).length≤s.length:=by simp;omega
  rcases apQ i s.length with hi|hi
  ·by_cases hx:s[i]=c
   ·have fp:((s[i].toNat:Int)=c.toNat):=by rw[hx]
    have bw: ¬(i:Int)=s.length:=by omega
    have hd:=Wa ha hi
    generalize hp:(s.drop a).take (i-a)=p at*
    repeat' (first|refine b9 (Zj fp (Zj bw (Zj hp @apR.{0}))) ?_|refine ay ?_|(refine Yb rfl ?_ ?_<;>intro ab<;>(try simp at ab)<;>try exact dc)|refine aK (Zj fp (Zj bw (Zj hp @apR.{0}))) ?_|fail)
    refine hL (out++[p],i+1,i+1) _ _ ⟨by dsimp only;omega,by dsimp only;omega,by simp;omega,fun _=>?_,fun h=>by dsimp only at h;omega⟩ (by dsimp only;omega) ?_
    ·dsimp only
     refine⟨?_,by simp⟩
     rw[←hr,hd,hx,w0 c p _ dT]
     simp
    ·have:(out++[p]).map V.str=out.map V.str++[.str p]:=by simp
     dsimp only
     rw[this]
     exact Yr [some 2] (by simp[ae])
   ·have fp: ¬((s[i].toNat:Int)=c.toNat):=Dg hx
    have bw: ¬(i:Int)=s.length:=by omega
    repeat' (first|refine b9 (Zj fp bw) ?_|refine ay ?_|(refine Yb rfl ?_ ?_<;>intro ab<;>(try simp at ab)<;>try exact dc)|refine aK (Zj fp bw) ?_|fail)
    refine hL (out,a,i+1) _ _ ⟨by dsimp only;omega,by dsimp only;omega,by dsimp only;omega,fun _=>⟨hr,?_⟩,fun h=>by dsimp only at h;omega⟩ (by dsimp only;omega) ?_
    ·dsimp only
     rw[Qg ha hi]
     simp only[aqr,aqn,not_or]
     exact⟨dT,fun e=>hx e.symm⟩
    ·exact Yr [some 0] (by simp[ae])
  ·obtain rfl:i=s.length:=by omega
   have hp:(s.drop a).take (s.length-a)=s.drop a:=apR (by simp)
   rw[hp]at dT
   repeat' (first|refine b9 (Zj hp @apR.{0}) ?_|refine ay ?_|(refine Yb rfl ?_ ?_<;>intro ab<;>(try simp at ab)<;>try exact dc)|refine aK (Zj hp @apR.{0}) ?_|fail)
   refine hL (out++[s.drop a],s.length+1,s.length+1) _ _ ⟨by dsimp only;omega,by dsimp only;omega,by simp;omega,fun h=>by dsimp only at h;omega,fun _=>?_⟩ (by dsimp only;omega) ?_
   ·dsimp only
    rw[←hr,w6 c _ dT]
   ·have:(out++[s.drop a]).map V.str=out.map V.str++[.str (s.drop a)]:=by simp
    dsimp only
    rw[this]
    exact Yr [some 2] (by simp[ae])
 ·simp
end Go.Proofs.YtjlnoogcggdhkaaGreatDoor.Ho
namespace Go.Proofs.YtjlnoogcggdhkaaGreatDoor.Ho
open Go.VS Go.Hst
attribute [local irreducible] bj au bE aS bz
theorem oh(s:List UInt8)(hs:s.length≤1000000):ao Tryz.prog 279 [.str s] (.bool (du s)):=by
 refine ah Tryz.func279 rfl Tryz.call279 ?_ ?_
 rotate_left 1
 refine af (s':=(.str s:V)::zJ 54) rfl ?_;dsimp only[zJ]
 by_cases h1:(128:Int)<s.length
 ·repeat' (first|refine b9 h1 ?_|refine ay ?_|(refine Yb rfl ?_ ?_<;>intro ab<;>(try simp at ab)<;>try exact dc)|refine aK h1 ?_|fail)
  have:du s=false:=by
   have:decide (s.length≤128)=false:=by simp;omega
   simp[du,this]
  rw[this]
  exact .pure .bool
 have YC:du s=(cq 46 s).all c9:=by
  have:decide (s.length≤128)=true:=by simp;omega
  simp[du,this]
 rw[YC]
 have fB:=Bw s 46 hs
 rw[show aF 46=.int .u8 46 from rfl]at fB
 have hlen:=oU 46 s
 have Tj:s.count 46≤s.length:=List.count_le_length
 have rq:=lE 46 s
 generalize cq 46 s=L at*
 have hLl:L.length≤4294967281:=by omega
 repeat' (first|refine bS h1 fB ?_|refine ay ?_|(refine Yb rfl ?_ ?_<;>intro ab<;>(try simp at ab)<;>try exact dc)|refine aK h1 ?_|fail)
 ·refine bm (α:=Nat) (fun i=>(some V.aa::none::some V.aa::none::zS 6 (zN 2 (some (V.int .i64 i)::zS 42 [])))) (fun i=> []) (fun i=>i≤L.length∧ ∀j (h:j<L.length),j<i→c9 L[j]=true) (fun i=>L.length-i) 0 ⟨by omega,fun j _ h=>by omega⟩ ?_ ?_
  ·dsimp only[aE,zN,zS]
   exact Yr [] (by simp[ae])
  rintro i ⟨hi,hall⟩ KL hL
  dsimp only[aE,zN,zS]
  rcases apQ i L.length with hi|hi
  ·have aP:c9 L[i]=true→i+1≤L.length∧ ∀j (h:j<L.length),j<i+1→c9 L[j]=true:=fun hx=>⟨by omega,fun j hj h=>by
    rcases apQ j i with h3|h3
    ·exact hall j hj h3
    ·obtain rfl:j=i:=by omega
     exact hx⟩
   have bV:c9 L[i]=false→L.all c9=false:=De hi
   obtain⟨l,dY⟩: ∃x,L[i]=x:=⟨_,rfl⟩
   have MJ:l.length≤4294967280:=by
    have:=(rq l (by rw[←dY];exact apY _)).2
    omega
   rw[dY]at aP bV
   by_cases h1:l=[]
   ·subst h1
    repeat' (first|refine b9 dY ?_|refine ay ?_|(refine Yb rfl ?_ ?_<;>intro ab<;>(try simp at ab)<;>try exact dc)|refine aK dY ?_|fail)
    rw[bV (by rfl)]
    exact .pure .bool
   have cI:0<l.length:=aqj.2 h1
   replace h1: ¬(l.length:Int)<1:=by omega
   by_cases h2:(63:Int)<l.length
   ·repeat' (first|refine b9 (Zj h1 (Zj h2 dY)) ?_|refine ay ?_|(refine Yb rfl ?_ ?_<;>intro ab<;>(try simp at ab)<;>try exact dc)|refine aK (Zj h1 (Zj h2 dY)) ?_|fail)
    rw[bV (by
     have:decide (l.length≤63)=false:=by simp;omega
     simp[c9,this])]
    exact .pure .bool
   have e1:((l.length:Int)-1).toNat=l.length-1:=by omega
   have g0:l.getD 0 0=l[0]'(by omega):=by simp[show 0<l.length by omega]
   have g1:l.getD (l.length-1) 0=l[l.length-1]'(by omega):=by simp[show l.length-1<l.length by omega]
   by_cases h3:((l[0]'(by omega)).toNat:Int)=45
   ·repeat' (first|refine b9 (Zj h1 (Zj h2 (Zj h3 dY))) ?_|refine ay ?_|(refine Yb rfl ?_ ?_<;>intro ab<;>(try simp at ab)<;>try exact dc)|refine aK (Zj h1 (Zj h2 (Zj h3 dY))) ?_|fail)
    rw[bV (by
     have:l[0]'(by omega)=45:=yq.1 h3
     rw[c9,g0,this];simp)]
    exact .pure .bool
   by_cases h4:((l[l.length-1]'(by omega)).toNat:Int)=45
   ·repeat' (first|refine b9 (Zj h1 (Zj h2 (Zj h3 (Zj h4 (Zj e1 dY))))) ?_|refine ay ?_|(refine Yb rfl ?_ ?_<;>intro ab<;>(try simp at ab)<;>try exact dc)|refine aK (Zj h1 (Zj h2 (Zj h3 (Zj h4 (Zj e1 dY))))) ?_|fail)
    rw[bV (by
     have:l[l.length-1]'(by omega)=45:=yq.1 h4
     rw[c9,g0,g1,this];simp)]
    exact .pure .bool
   have hB:c9 l=l.all lF:=by
    have q1:decide (1≤l.length)=true:=by simp;omega
    have q2:decide (l.length≤63)=true:=by simp;omega
    have q3:l[0]'(by omega)≠45:=fun e=>h3 (yq.2 e)
    have q4:l[l.length-1]'(by omega)≠45:=fun e=>h4 (yq.2 e)
    rw[c9,g0,g1,beq_false_of_ne q3,beq_false_of_ne q4,q1,q2];rfl
   rw[hB]at aP bV
   repeat' (first|refine b9 (Zj h1 (Zj h2 (Zj h3 (Zj h4 (Zj e1 dY))))) ?_|refine ay ?_|(refine Yb rfl ?_ ?_<;>intro ab<;>(try simp at ab)<;>try exact dc)|refine aK (Zj h1 (Zj h2 (Zj h3 (Zj h4 (Zj e1 dY))))) ?_|fail)
   refine bm (α:=Nat) (fun i=>(some V.aa::none::some V.aa::zN 2 (some (V.int .i64 i)::zS 4 (zN 3 (zS 42 []))))) (fun i=> []) (fun i=>i≤l.length∧ ∀j (h:j<l.length),j<i→lF l[j]=true) (fun i=>l.length-i) 0 ⟨by omega,fun j _ h=>by omega⟩ ?_ ?_
   ·dsimp only[aE,zN,zS]
    exact Yr [] (by simp[ae])
   rintro j ⟨hj,lp⟩ YD pJ
   dsimp only[aE,zN,zS]
   rcases apQ j l.length with hj|hj
   ·have lG:lF l[j]=true→j+1≤l.length∧ ∀k (h:k<l.length),k<j+1→lF l[k]=true:=fun hx=>⟨by omega,fun k hk h=>by
     rcases apQ k j with h3|h3
     ·exact lp k hk h3
     ·obtain rfl:k=j:=by omega
      exact hx⟩
    have jm:lF l[j]=false→l.all lF=false:=all_false hj
    obtain⟨c,bX⟩: ∃c,l[j]=c:=⟨_,rfl⟩
    rw[bX]at lG jm
    cases bD:okB c
    ·by_cases cE:(c.toNat:Int)=45
     ·have afy:ao Tryz.prog 254 [.int .u8 45] (.bool false):=oV 45
      repeat' (first|refine bS (Zj bX (Zj bD cE)) afy ?_|refine ay ?_|(refine Yb rfl ?_ ?_<;>intro ab<;>(try simp at ab)<;>try exact dc)|refine aK (Zj bX (Zj bD cE)) ?_|fail)
      have:c=45:=yq.1 cE
      refine pJ (j+1) _ _ (lG (by simp[lF,this])) (by omega) ?_
      exact Yr [] (by simp[ae])
     ·repeat' (first|((first|refine fc ?_|(refine fU ?_ ?_;(focus (simp[bX,bD,cE];done))));intro K9 h9;simp(disch:=first|exact dd|fail) [bX,bD,cE];refine Zm ?_;((first|refine Ap (oV c) ?_|skip)<;>(refine fe h9 ?_;clear h9 K9)))|refine ay ?_|(refine Yb rfl ?_ ?_<;>intro ab<;>(try simp at ab)<;>try exact dc)|refine aK (Zj bX (Zj bD cE)) ?_|fail)
      have bw: ¬c=45:=fun e=>cE (yq.2 e)
      rw[bV (jm (by simp[lF,bD,bw]))]
      exact .pure .bool
    ·repeat' (first|((first|refine fc ?_|(refine fU ?_ ?_;(focus (simp[bX,bD];done))));intro K9 h9;simp(disch:=first|exact dd|fail) [bX,bD];refine Zm ?_;((first|refine Ap (oV c) ?_|skip)<;>(refine fe h9 ?_;clear h9 K9)))|refine ay ?_|(refine Yb rfl ?_ ?_<;>intro ab<;>(try simp at ab)<;>try exact dc)|refine aK (Zj bX bD) ?_|fail)
     refine pJ (j+1) _ _ (lG (by simp[lF,bD])) (by omega) ?_
     exact Yr [] (by simp[ae])
   ·repeat' (first|refine yk ?_|refine ay ?_|(refine Yb rfl ?_ ?_<;>intro ab<;>(try simp at ab)<;>try exact dc)|refine gm ?_|fail)
    refine hL (i+1) _ _ (aP (all_true fun k hk=>lp k hk (by omega))) (by omega) ?_
    exact Yr [] (by simp[ae])
  ·repeat' (first|refine yk ?_|refine ay ?_|(refine Yb rfl ?_ ?_<;>intro ab<;>(try simp at ab)<;>try exact dc)|refine gm ?_|fail)
   rw[Ga fun j hj=>hall j hj (by omega)]
   exact .pure .bool
 ·exact .bool
end Go.Proofs.YtjlnoogcggdhkaaGreatDoor.Ho
namespace Go.Proofs.YtjlnoogcggdhkaaGreatDoor.Ho
open Go.VS Go.Hst
attribute [local irreducible] bj au bE aS bz
theorem yO{s:List UInt8}(h:du s=true):s.length≤128∧ ∀p∈cq 46 s,c9 p=true:=by
 simp only[du,apP,decide_eq_true_eq,ap1]at h
 exact h
theorem LF{l:List UInt8}(h:c9 l=true):l≠ []∧ ∀c∈l,lF c=true:=by
 simp only[c9,apP,decide_eq_true_eq,ap1]at h
 exact⟨fun e=>by subst e;simp at h,h.2.2.2.2⟩
theorem Qh{s:List UInt8}(h:du s=true): ∀x∈s,x=46∨lF x=true:=by
 intro x hx
 rcases w7 46 s x hx with h1|⟨p,h1,h2⟩
 ·exact .inl h1
 ·exact .inr ((LF ((yO h).2 p h1)).2 x h2)
theorem Wb:du []=false:=rfl
theorem Wc(l:List UInt8):du (46::l)=false:=by
 cases h:du (46::l)with
 |false=>rfl
 |true=>
  have:=(yO h).2 [] (by simp[cq])
  exact absurd this (by decide)
theorem MK{s:List UInt8}(c:UInt8)(h1:c≠46)(h2:lF c=false)(hm:c∈s):du s=false:=by
 cases h:du s with
 |false=>rfl
 |true=>
  rcases Qh h c hm with h3|h3
  ·exact absurd h3 h1
  ·rw[h2]at h3;cases h3
theorem Tk(l:List UInt8):du (42::l)=false:=MK 42 (by decide) (by decide) (by simp)
def rG(b:List UInt8):Bool:=b==[]||du b
def Tl(s:List UInt8):Bool:=decide (s.length≤128)&&(du (Lib.trimPrefix s [42,46])&&decide (46∈Lib.trimPrefix s [42,46]))
def oW(s:List UInt8):Bool:=if Lib.hasPrefix s [42,46]=true then Tl s else du s
theorem EX{s:List UInt8}:Lib.hasPrefix s [42,46]=true↔ ∃r,s=42::46::r:=by
 unfold Lib.hasPrefix
 rw[List.isPrefixOf_iff_prefix]
 constructor
 ·rintro⟨r,rfl⟩;exact⟨r,rfl⟩
 ·rintro⟨r,rfl⟩;exact⟨r,rfl⟩
theorem Tm(r:List UInt8):Lib.trimPrefix (42::46::r) [42,46]=r:=by
 unfold Lib.trimPrefix
 rw[if_pos (EX.2 ⟨r,rfl⟩)]
 rfl
def N1(s:List UInt8):Bool:=du s||(decide (s.length≤128)&&(decide (2<s.length)&&(s.take 2==[42,46]&&(du (s.drop 2)&&decide (2<(cq 46 s).length)))))
theorem Wd(s:List UInt8):N1 s=oW s:=by
 unfold N1 oW
 by_cases hp:Lib.hasPrefix s [42,46]=true
 ·obtain⟨r,rfl⟩:=EX.1 hp
  rw[if_pos hp,Tl,Tm,Tk]
  simp only[arG]
  congr 1
  have h2:(List.take 2 (42::46::r)==[42,46])=true:=by simp
  have h3:List.drop 2 (42::46::r)=r:=rfl
  rw[h2,h3,oU]
  have h4:(42::46::r:List UInt8).count 46=r.count 46+1:=by
   rw[List.count_cons_of_ne (by decide),List.count_cons_self]
  rw[h4]
  cases hd:du r
  ·simp
  ·have bw:r≠ []:=fun e=>by subst e;simp[Wb]at hd
   have:=aqj.2 bw
   have h5:decide (2<(42::46::r:List UInt8).length)=true:=by simp;omega
   rw[h5]
   simp only[aq9]
   by_cases hm:46∈r
   ·have:=List.count_pos_iff.2 hm
    simp[hm]
   ·have:=List.count_eq_zero.2 hm
    simp[hm,this]
 ·rw[if_neg hp]
  have:(s.take 2==[42,46])=false:=by
   cases h:(s.take 2==[42,46])with
   |false=>rfl
   |true=>
    exfalso
    apply hp
    refine EX.2 ⟨s.drop 2,?_⟩
    have h:=beq_iff_eq.1 h
    conv=>lhs;rw[←aqE 2 s,h]
    rfl
  rw[this]
  simp
def et(s b:List UInt8):Bool:=(s==[]||oW s)&&(rG b&&(b==[]||(jT s b||yP s (46::b))))
theorem Qi(b:List UInt8)(hb:b.length≤1000000):ao Tryz.prog 237 [.str b] (.bool (rG b)):=by
 refine ah Tryz.func237 rfl Tryz.call237 ?_ ?_
 rotate_left 1
 refine af (s':=(.str b:V)::zJ 8) rfl ?_;dsimp only[zJ]
 by_cases h:b=[]
 ·subst h
  repeat' (first|refine yk ?_|refine ay ?_|refine gm ?_|fail)
  exact .pure .bool
 ·have hd:=sP b (by omega)
  have e:(b==[])=false:=by simpa using h
  repeat' (first|refine bS (Zj h e) hd ?_|refine ay ?_|refine aK (Zj h e) ?_|fail)
  rw[rG,e]
  exact .pure .bool
 ·exact .bool
theorem N3(b:List UInt8)(hb:b.length≤1000000):ao Tryz.prog 249 [.str b] (.bool (rG b)):=by
 refine ah Tryz.func249 rfl Tryz.call249 ?_ ?_
 rotate_left 1
 refine af (s':=(.str b:V)::zJ 8) rfl ?_;dsimp only[zJ]
 by_cases h:b=[]
 ·subst h
  repeat' (first|refine yk ?_|refine ay ?_|refine gm ?_|fail)
  exact .pure .bool
 ·have e:(b==[])=false:=by simpa using h
  repeat' (first|((first|refine fc ?_|(refine fU ?_ ?_;(focus (simp[h,e];done))));intro K9 h9;simp(disch:=first|exact dd|fail) [h,e];refine Zm ?_;((first|refine Ap (oh b hb) ?_|skip)<;>(refine fe h9 ?_;clear h9 K9)))|refine ay ?_|refine aK (Zj h e) ?_|fail)
  rw[rG,e]
  exact .pure .bool
 ·exact .bool
theorem vU(s p:List UInt8):(Lib.trimPrefix s p).length≤s.length:=by
 unfold Lib.trimPrefix;split<;>simp
theorem Iu(s:List UInt8)(hs:s.length≤1000000):ao Tryz.prog 236 [.str s] (.bool (oW s)):=by
 refine ah Tryz.func236 rfl Tryz.call236 ?_ ?_
 rotate_left 1
 refine af (s':=(.str s:V)::zJ 23) rfl ?_;dsimp only[zJ]
 have hl:=vU s [42,46]
 have hc:=EY s [42,46]
 have hk:=yr (Lib.trimPrefix s [42,46]) [46] (by omega)
 rw[Iv]at hk
 have vS:=sP (Lib.trimPrefix s [42,46]) (by omega)
 have Gb:=sP s (by omega)
 unfold oW Tl
 generalize Lib.trimPrefix s [42,46]=r at*
 cases hp:Lib.hasPrefix s [42,46]
 ·repeat' (first|refine bS hp (Zj hc Gb) ?_|refine ay ?_|(refine Yb rfl ?_ ?_<;>intro ab<;>(try simp at ab)<;>try exact dc)|refine aK hp ?_|fail)
  exact .pure .bool
 ·by_cases h1:(s.length:Int)≤128
  ·have iQ:decide (s.length≤128)=true:=by simp;omega
   rw[iQ]
   cases hd:du r
   ·repeat' (first|refine bS (Zj hp (Zj h1 hd)) (Zj hc (Zj vS hk)) ?_|refine ay ?_|(refine Yb rfl ?_ ?_<;>intro ab<;>(try simp at ab)<;>try exact dc)|refine aK (Zj hp (Zj h1 hd)) ?_|fail)
    exact .pure .bool
   ·repeat' (first|refine bS (Zj hp (Zj h1 hd)) (Zj hc (Zj vS hk)) ?_|refine ay ?_|(refine Yb rfl ?_ ?_<;>intro ab<;>(try simp at ab)<;>try exact dc)|refine aK (Zj hp (Zj h1 hd)) ?_|fail)
    exact .pure .bool
  ·have iQ:decide (s.length≤128)=false:=by simp;omega
   rw[iQ]
   repeat' (first|refine bS (Zj hp h1) (Zj hc (Zj vS hk)) ?_|refine ay ?_|(refine Yb rfl ?_ ?_<;>intro ab<;>(try simp at ab)<;>try exact dc)|refine aK (Zj hp h1) ?_|fail)
   exact .pure .bool
 ·exact .bool
theorem Hw(s:List UInt8)(hs:s.length≤1000000):ao Tryz.prog 248 [.str s] (.bool (oW s)):=by
 rw[←Wd]
 refine ah Tryz.func248 rfl Tryz.call248 ?_ ?_
 rotate_left 1
 refine af (s':=(.str s:V)::zJ 30) rfl ?_;dsimp only[zJ]
 have vS:=oh s hs
 have Gb:=oh (s.drop 2) (by simp;omega)
 have fB:=Bw s 46 hs
 rw[show aF 46=.int .u8 46 from rfl]at fB
 unfold N1
 cases h0:du s
 ·by_cases h1:(s.length:Int)≤128
  ·have iQ:decide (s.length≤128)=true:=by simp;omega
   rw[iQ]
   by_cases h2:(2:Int)<s.length
   ·have eX:decide (2<s.length)=true:=by simp;omega
    rw[eX]
    cases h3:(s.take 2==[42,46])
    ·repeat' (first|refine bS (Zj h0 (Zj h1 (Zj h2 h3))) (Zj vS (Zj Gb fB)) ?_|refine ay ?_|refine aK (Zj h0 (Zj h1 (Zj h2 h3))) ?_|fail)
     exact .pure .bool
    ·cases h4:du (s.drop 2)
     ·repeat' (first|refine bS (Zj h0 (Zj h1 (Zj h2 (Zj h3 (Zj h4 @apR.{0}))))) (Zj vS (Zj Gb fB)) ?_|refine ay ?_|refine aK (Zj h0 (Zj h1 (Zj h2 (Zj h3 (Zj h4 @apR.{0}))))) ?_|fail)
      exact .pure .bool
     ·have Ve:decide ((2:Int)<(cq 46 s).length)=decide (2<(cq 46 s).length):=by simp;omega
      repeat' (first|refine bS (Zj h0 (Zj h1 (Zj h2 (Zj h3 (Zj h4 (Zj Ve @apR.{0})))))) (Zj vS (Zj Gb fB)) ?_|refine ay ?_|refine aK (Zj h0 (Zj h1 (Zj h2 (Zj h3 (Zj h4 (Zj Ve @apR.{0})))))) ?_|fail)
      exact .pure .bool
   ·have eX:decide (2<s.length)=false:=by simp;omega
    rw[eX]
    repeat' (first|refine bS (Zj h0 (Zj h1 h2)) vS ?_|refine ay ?_|refine aK (Zj h0 (Zj h1 h2)) ?_|fail)
    exact .pure .bool
  ·have iQ:decide (s.length≤128)=false:=by simp;omega
   rw[iQ]
   repeat' (first|refine bS (Zj h0 h1) vS ?_|refine ay ?_|refine aK (Zj h0 h1) ?_|fail)
   exact .pure .bool
 ·repeat' (first|refine bS h0 vS ?_|refine ay ?_|refine aK h0 ?_|fail)
  exact .pure .bool
 ·exact .bool
end Go.Proofs.YtjlnoogcggdhkaaGreatDoor.Ho
