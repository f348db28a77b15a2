/-
 STEP: the form in which the reference compares texts.
 Conditions: none.
-/
import Derived.Test.YtjlnoogcggdhkaaGreatDoorGj
set_option maxRecDepth 100000
set_option maxHeartbeats 32000000
namespace Go.Stp
open Go.VS
def mY(l:List UInt8):List UInt8:=l.map ja
def n8(l:List UInt8)(i:Nat):List UInt8:=mY (l.take i)++l.drop i
@[simp] theorem Mx(l:List UInt8)(i:Nat):(n8 l i).length=l.length:=by simp[n8,mY];omega
@[simp] theorem My(l:List UInt8):(mY l).length=l.length:=by simp[mY]
theorem UX(l:List UInt8)(i:Nat)(h:i<l.length):(n8 l i)[i]'(by simpa using h)=l[i]:=by
 have hl:(mY (l.take i)).length=i:=by simp;omega
 simp only[n8]
 rw[List.getElem_append_right (by omega)]
 simp[hl]
theorem SJ(l:List UInt8)(i:Nat)(h:i<l.length):n8 l (i+1)=(n8 l i).set i (ja l[i]):=by
 have hl:(mY (l.take i)).length=i:=by simp;omega
 unfold n8
 rw[arl _ _ (by omega),hl,Nat.sub_self,aqA h,arq h,
  show mY (l.take i++[l[i]])=mY (l.take i)++[ja l[i]]from arn,ap3]
 rfl
theorem SK(l:List UInt8):n8 l l.length=mY l:=by simp[n8]
theorem SM(l:List UInt8):n8 l 0=l:=by simp[n8,mY]
theorem SN(l:List UInt8)(i:Nat)(c:UInt8)(h:i<l.length)(e:l[i]=c):l.set i c=l:=by
 apply List.ext_getElem (by simp)
 intro j h1 h2
 rw[List.getElem_set]
 split
 ·rename_i h;subst h;exact e.symm
 ·rfl
theorem NB(c:UInt8):ja c=32↔c=32:=by
 by_cases h:65≤c.toNat∧c.toNat≤90
 ·constructor
  ·intro e
   have:=Bl c h
   rw[e]at this
   simp at this
   omega
  ·rintro rfl
   simp at h
 ·rw[Bk c h]
def kZ(s:List UInt8)(i:Nat):List UInt8:=(fst s i).1++(if(fst s i).2 then[32]else[])
theorem tV(s:List UInt8): ∀i c,(fst s i).1.getLast?=some c→c≠32
 |0,c=>by simp[fst]
 |i+1,c=>by
  rcases apQ i s.length with h|h
  ·rw[mb s i h]
   unfold mI
   split
   ·exact tV s i c
   ·rename_i h2
    simp only[List.getLast?_append,List.getLast?_singleton,Option.some_or,aqy]
    rintro rfl
    rw[ne_eq,NB]
    exact h2
  ·have:fst s (i+1)=fst s i:=by rw[fst,fst,apR h,apR (by omega)]
   rw[this];exact tV s i c
theorem Xp(s:List UInt8)(i:Nat):(kZ s i).length≤2*i+1:=by
 have:=Bj s i
 unfold kZ
 split<;>simp<;>omega
theorem Xq(s:List UInt8)(i:Nat)(h:i<s.length)(hc:s[i]≠32):kZ s (i+1)=kZ s i++[ja s[i]]:=by
 unfold kZ
 rw[mb s i h,mI,if_neg hc]
 simp only[aqo,if_false,aqp]
theorem Xr(s:List UInt8)(i:Nat)(h:i<s.length)(hc:s[i]=32)(h0:kZ s i=[]):kZ s (i+1)=[]:=by
 unfold kZ at*
 rw[mb s i h,mI,if_pos hc]
 simp at h0
 simp[h0.1]
theorem UY(s:List UInt8)(i:Nat)(h:i<s.length)(hc:s[i]=32){Y:List UInt8}(h0:kZ s i=Y++[32]):kZ s (i+1)=Y++[32]:=by
 have hl:=tV s i
 have hg:=FU s i
 unfold kZ at*
 rw[mb s i h,mI,if_pos hc]
 cases n7:(fst s i).2
 ·rw[n7]at h0
  simp at h0
  exact absurd rfl (hl 32 (by rw[h0];simp))
 ·rw[n7]at h0
  simp at h0
  have:=hg n7
  rw[h0]at this
  simp[h0,this]
theorem Xs(s:List UInt8)(i:Nat)(h:i<s.length)(hc:s[i]=32){Y:List UInt8}{z:UInt8}(hz:z≠32)(h0:kZ s i=Y++[z]):kZ s (i+1)=Y++[z]++[32]:=by
 have hl:=tV s i
 have hg:=FU s i
 unfold kZ at*
 rw[mb s i h,mI,if_pos hc]
 cases n7:(fst s i).2
 ·rw[n7]at h0
  simp at h0
  simp[h0]
 ·rw[n7]at h0
  simp only[if_true]at h0
  have:=(List.append_inj' h0 rfl).2
  simp at this
  exact absurd this.symm hz
theorem Xt(s:List UInt8){Y:List UInt8}{z:UInt8}(h0:kZ s s.length=Y++[z]):hZ s=if z=32 then Y else Y++[z]:=by
 have hl:=tV s s.length
 unfold kZ at h0
 unfold hZ
 cases n7:(fst s s.length).2
 ·rw[n7]at h0
  simp at h0
  have:=hl z (by rw[h0];simp)
  rw[if_neg this,h0]
 ·rw[n7]at h0
  simp only[if_true]at h0
  have h2:=List.append_inj' h0 rfl
  simp at h2
  rw[if_pos h2.2.symm,h2.1]
theorem UZ(s:List UInt8)(h0:kZ s s.length=[]):hZ s=[]:=by
 unfold kZ at h0
 simp at h0
 exact h0.1
end Go.Stp
namespace Go.Proofs.YtjlnoogcggdhkaaGreatDoor
open Go.Proofs.Tryz
open Go.VS Go.Stp
set_option linter.all false
attribute [local irreducible] bj au bE aS bz
theorem Mz(l:List UInt8)(hl:l.length≤4294967280):ao prog 278 [.str l] (.str (mY l)):=by
 refine ah func278 rfl call278 ?_ ?_
 rotate_left 1
 refine af (s':=(.str l:V)::zJ 32) rfl ?_;dsimp only[zJ]
 repeat' (first|refine Zr ?_|refine Zt ?_|(refine Yb rfl ?_ ?_<;>intro ab<;>(try simp at ab)<;>try exact dc)|refine Zo ?_|fail)
 ·refine aV (fun i=>(some V.aa::none::some V.aa::none::zS 4 (none::some (V.int .i64 i)::zS 23 []))) (fun i=> [.live ((n8 l i).map aF)]) l.length ?_ fun i hi KL hL=>?_
  ·dsimp only[aE,zN,zS]
   exact Yr [some 0] (by simp[ae,SM])
  dsimp only[aE,zN,zS]
  have eR:=Mx l i
  rcases apQ i l.length with hi|hi
  ·have hg:=UX l i hi
   have hs:=SJ l i hi
   have hc:(l[i]).toNat<256:=aqk _
   obtain⟨c,bX⟩: ∃c,l[i]=c:=⟨_,rfl⟩
   rw[bX]at hg hs hc
   obtain⟨L2,pJ⟩: ∃L2,n8 l (i+1)=L2:=⟨_,rfl⟩
   rw[pJ]at hs
   by_cases a1:(65:Int)≤c.toNat<;>by_cases a2:(c.toNat:Int)≤90<;>(try(exfalso;omega))
   ·have hu:=Bl c ⟨by omega,by omega⟩
    have hw:(c.toNat:Int)+32=((ja c).toNat:Int):=by omega
    repeat' (first|refine Z3 (Zj eR (Zj hg (Zj a1 a2))) ?_|refine Zt ?_|(refine Yb rfl ?_ ?_<;>intro ab<;>(try simp at ab)<;>try exact dc)|refine Z6 (Zj eR (Zj hg (Zj a1 a2))) ?_|fail)
    refine hL _ _ hi ?_
    have e:((n8 l i).map aF).set i (.int .u8 (ja c).toNat)=L2.map aF:=by rw[hs,arB];rfl
    exact Le.mk [some 0] (by dsimp only[aE,zN,zS];simp) (aZ (by simp) (by rw[hw,e,pJ];simp[ae])) (by simp)
   all_goals
    have hid:=Bk c (by omega)
    repeat' (first|refine Z3 (Zj eR (Zj hg (Zj a1 a2))) ?_|refine Zt ?_|(refine Yb rfl ?_ ?_<;>intro ab<;>(try simp at ab)<;>try exact dc)|refine Z6 (Zj eR (Zj hg (Zj a1 a2))) ?_|fail)
    refine hL _ _ hi ?_
    rw[hid,SN (n8 l i) i c (by omega) hg]at hs
    rw[pJ,hs]
    exact Yr [some 0] (by simp[ae])
  ·obtain rfl:i=l.length:=by omega
   rw[SK]
   have hB:=cS (l:=mY l) (n:=l.length) (by simp)
   have pL:List.take l.length (mY l)=mY l:=apR (by simp)
   repeat' (first|refine Z3 (Zj hB pL) ?_|refine Zt ?_|(refine Yb rfl ?_ ?_<;>intro ab<;>(try simp at ab)<;>try exact dc)|refine Z6 (Zj hB pL) ?_|fail)
   exact .pure .str
 ·exact .str
theorem ER(s:List UInt8)(hs:s.length≤1000000):ao prog 241 [.str s] (.str (hZ s)):=by
 have agC:=Mz s (by omega)
 refine ah func241 rfl call241 ?_ ?_
 rotate_left 1
 refine af (s':=(.str s:V)::zJ 55) rfl ?_;dsimp only[zJ]
 have eu:=My s
 repeat' (first|refine Z5 agC ?_|refine Zt ?_|(refine Yb rfl ?_ ?_<;>intro ab<;>(try simp at ab)<;>try exact dc)|refine Zo ?_|fail)
 ·refine aV (fun i=>(zN 2 (some V.aa::some (V.av 0 0 (kZ s i).length 1)::some (V.int .i64 i)::zS 51 []))) (fun i=> [.live ((kZ s i).map aF)]) s.length ?_ fun i hi KL hL=>?_
  ·dsimp only[aE,zN,zS]
   exact Le.mk [none] (by simp[fst,kZ]) (aZ (by simp) (by simp[ae,fst,kZ])) (by simp)
  dsimp only[aE,zN,zS]
  have hl:=Xp s i
  rcases apQ i s.length with hi|hi
  ·have mW:=Xq s i hi
   have tx:=Xr s i hi
   have PL:=fun h (Y:List UInt8)=>UY s i hi h (Y:=Y)
   have n7:=fun h (Y:List UInt8) z hz=>Xs s i hi h (Y:=Y) (z:=z) hz
   have tI:(mY s)[i]'(by simpa using hi)=ja s[i]:=by simp[mY]
   obtain⟨c,bX⟩: ∃c,s[i]=c:=⟨_,rfl⟩
   rw[bX]at mW tx PL n7 tI
   have kX:=NB c
   obtain⟨d,hd⟩: ∃d,ja c=d:=⟨_,rfl⟩
   rw[hd]at tI kX mW
   have vY:d.toNat<256:=aqk _
   clear hd
   by_cases hc:c=32
   ·obtain rfl:d=32:=kX.2 hc
    rcases List.eq_nil_or_concat (kZ s i)with hX|⟨Y,z,hX⟩
    ·have:=tx hc hX
     rw[this]at hL
     rw[hX]at hl⊢
     repeat' (first|refine b9 (Zj tI eu) ?_|refine ay ?_|(refine Yb rfl ?_ ?_<;>intro ab<;>(try simp at ab)<;>try exact dc)|refine aK (Zj tI eu) ?_|fail)
     refine hL _ _ hi ?_
     exact Yr [some 0] (by simp[ae])
    ·rw[List.concat_eq_append]at hX
     rw[hX]at hl⊢
     simp only[aqa,ara]at hl
     by_cases hz:z=32
     ·subst hz
      have:=PL hc Y hX
      rw[this]at hL
      repeat' (first|refine b9 (Zj tI eu) ?_|refine ay ?_|(refine Yb rfl ?_ ?_<;>intro ab<;>(try simp at ab)<;>try exact dc)|refine aK (Zj tI eu) ?_|fail)
      repeat' (first|refine b9 (Zj tI eu) ?_|refine ay ?_|(refine Yb rfl ?_ ?_<;>intro ab<;>(try simp at ab)<;>try exact dc)|refine aK (Zj tI eu) ?_|fail)
      refine hL _ _ hi ?_
      exact Yr [some 0] (by simp[ae])
     ·have:=n7 hc Y z hz hX
      rw[this]at hL
      have SO: ¬((z.toNat:Int)=32):=fun e=>hz (by apply ard.1;simp;omega)
      repeat' (first|refine b9 (Zj tI (Zj eu SO)) ?_|refine ay ?_|(refine Yb rfl ?_ ?_<;>intro ab<;>(try simp at ab)<;>try exact dc)|refine aK (Zj tI (Zj eu SO)) ?_|fail)
      refine hL _ _ hi ?_
      exact Yr [some 2] (by simp[ae,aF,apR])
   ·have hdn: ¬d=32:=fun e=>hc (kX.1 e)
    have hdi: ¬((d.toNat:Int)=32):=fun e=>hdn (by apply ard.1;simp;omega)
    rw[mW hc]at hL
    clear mW tx PL n7
    generalize kZ s i=X at*
    repeat' (first|refine b9 (Zj tI (Zj hdi eu)) ?_|refine ay ?_|(refine Yb rfl ?_ ?_<;>intro ab<;>(try simp at ab)<;>try exact dc)|refine aK (Zj tI (Zj hdi eu)) ?_|fail)
    refine hL _ _ hi ?_
    exact Yr [some 2] (by simp[ae,aF,apR])
  ·obtain rfl:i=s.length:=by omega
   have aa9:=fun(Y:List UInt8) z=>Xt s (Y:=Y) (z:=z)
   have acR:=UZ s
   rcases List.eq_nil_or_concat (kZ s s.length)with hX|⟨Y,z,hX⟩
   ·rw[hX]at hl⊢
    repeat' (first|refine b9 eu ?_|refine ay ?_|(refine Yb rfl ?_ ?_<;>intro ab<;>(try simp at ab)<;>try exact dc)|refine aK eu ?_|fail)
    rw[acR hX]
    simp
    exact .pure .str
   ·rw[List.concat_eq_append]at hX
    rw[hX]at hl⊢
    simp only[aqa,ara]at hl
    by_cases hz:z=32
    ·subst hz
     repeat' (first|refine b9 eu ?_|refine ay ?_|(refine Yb rfl ?_ ?_<;>intro ab<;>(try simp at ab)<;>try exact dc)|refine aK eu ?_|fail)
     rw[aa9 Y 32 hX]
     simp
     exact .pure .str
    ·have SO: ¬((z.toNat:Int)=32):=fun e=>hz (by apply ard.1;simp;omega)
     have hB:List.take (Y.length+1) (Y.map aF++[aF z])=Y.map aF++[aF z]:=apR (by simp)
     have pL:List.take (Y.length+1) (Y++[z])=Y++[z]:=apR (by simp)
     have yn:(∀(c:V),(∃a,a∈Y∧aF a=c)∨c=aF z→c.isByte=true)↔True:=iff_true_intro (by rintro c (⟨a,-,rfl⟩|rfl)<;>rfl)
     repeat' (first|refine b9 (Zj eu (Zj SO (Zj hB (Zj pL yn)))) ?_|refine ay ?_|(refine Yb rfl ?_ ?_<;>intro ab<;>(try simp at ab)<;>try exact dc)|refine aK (Zj eu (Zj SO (Zj hB (Zj pL yn)))) ?_|fail)
     rw[aa9 Y z hX,if_neg hz]
     simp
     exact .pure .str
 ·exact .str
theorem Ld(a b:List UInt8)(ha:a.length≤131072)(hb:b.length≤131072):ao prog 201 [.str a,.str b] (.bool (hZ a==hZ b)):=by
 have h1:=ER a (by omega)
 have h2:=ER b (by omega)
 refine ah func201 rfl call201 ?_ ?_
 rotate_left 1
 refine af (s':=(.str a:V)::(.str b:V)::zJ 8) rfl ?_;dsimp only[zJ]
 repeat' (first|refine Z2 (Zj h1 h2) ?_|refine Zt ?_|fail)
 ·exact .pure .bool
 ·exact .bool
end Go.Proofs.YtjlnoogcggdhkaaGreatDoor
namespace Go.Proofs.YtjlnoogcggdhkaaGreatDoor
open Go.Proofs.Tryz
open Go.VS Go.Stp
set_option linter.all false
attribute [local irreducible] bj au aS bz
theorem Hl(r:List At)(a:At)(hl:r.length≤131072)(hr: ∀b∈r,b.v.length≤131072)(ha:a.v.length≤131072):ao prog 155 [bn r,.agg a.c] (.bool (hasB r a)):=by
 show ao _ _ [.sl r.length (r.flatMap At.c),.agg [.str a.t,.int .i64 a.k,.str a.v]] _
 refine ah func155 rfl call155 ?_ ?_
 rotate_left 1
 refine af (s':=(.sl r.length (r.flatMap At.c):V)::(.agg [.str a.t,.int .i64 a.k,.str a.v]:V)::zJ 24) rfl ?_;dsimp only[zJ]
 have eu:=la r
 have cv:=qA r
 generalize r.flatMap At.c=cells at*
 repeat' (first|refine Zr ?_|refine Zt ?_|(refine Yb rfl ?_ ?_<;>intro ab<;>(try simp at ab)<;>try exact dc)|refine Zo ?_|fail)
 ·refine bm (α:=Nat) (fun i=>(zS 2 (zN 2 (some V.aa::none::some V.aa::zN 2 (some (V.int .i64 i)::zS 16 []))))) (fun i=> [.live [.str a.t,.int .i64 a.k,.str a.v]]) (fun i=>i≤r.length∧ ∀j (h:j<r.length),j<i→tU a r[j]=false) (fun i=>r.length-i) 0 ⟨by omega,fun j _ h=>by omega⟩ ?_ ?_
  ·dsimp only[aE,zN,zS]
   exact Yr [some 0] (by simp[ae])
  rintro i ⟨hi,hall⟩ KL hL
  dsimp only[aE,zN,zS]
  rcases apQ i r.length with hi|hi
  ·have aP:tU a r[i]=false→i+1≤r.length∧ ∀j (h:j<r.length),j<i+1→tU a r[j]=false:=fun hx=>⟨by omega,fun j hj h=>by
    rcases apQ j i with h3|h3
    ·exact hall j hj h3
    ·obtain rfl:j=i:=by omega
     exact hx⟩
   have mf:tU a r[i]=true→hasB r a=true:=any_true hi
   have hg:=cv i hi
   have hx:r[i].v.length≤131072:=hr _ (apY _)
   obtain⟨x,dY⟩: ∃x,r[i]=x:=⟨_,rfl⟩
   rw[dY]at aP mf hg hx
   rw[show x.c=[.str x.t,.int .i64 x.k,.str x.v]from rfl]at hg
   have hm:=Ld x.v a.v hx ha
   by_cases h1:a.t=x.t
   ·by_cases h2:hZ a.v=hZ x.v
    ·repeat' (first|refine Z4 (Zj hg (Zj h1 h2)) hm ?_|refine Zt ?_|(refine Yb rfl ?_ ?_<;>intro ab<;>(try simp at ab)<;>try exact dc)|refine Z6 (Zj hg (Zj h1 h2)) ?_|fail)
     rw[mf (by simp[tU,h1,h2])]
     exact .pure .bool
    ·have h3: ¬hZ x.v=hZ a.v:=fun e=>h2 e.symm
     repeat' (first|refine Z4 (Zj hg (Zj h1 (Zj h2 h3))) hm ?_|refine Zt ?_|(refine Yb rfl ?_ ?_<;>intro ab<;>(try simp at ab)<;>try exact dc)|refine Z6 (Zj hg (Zj h1 (Zj h2 h3))) ?_|fail)
     refine hL (i+1) _ _ (aP (by simp[tU,h2])) (by omega) ?_
     exact Yr [some 0] (by simp[ae,h1])
   ·have h3: ¬x.t=a.t:=fun e=>h1 e.symm
    repeat' (first|refine Z4 (Zj hg (Zj h1 h3)) hm ?_|refine Zt ?_|(refine Yb rfl ?_ ?_<;>intro ab<;>(try simp at ab)<;>try exact dc)|refine Z6 (Zj hg (Zj h1 h3)) ?_|fail)
    refine hL (i+1) _ _ (aP (by simp[tU,h1])) (by omega) ?_
    exact Yr [some 0] (by simp[ae])
  ·repeat' (first|refine Zr ?_|refine Zt ?_|(refine Yb rfl ?_ ?_<;>intro ab<;>(try simp at ab)<;>try exact dc)|refine Zo ?_|fail)
   rw[show hasB r a=false from any_false fun j hj=>hall j hj (by omega)]
   exact .pure .bool
 ·exact .bool
theorem PM(a b:List At)(yC:a.length≤131072)(ha: ∀x∈a,x.v.length≤131072)(Ie:b.length≤131072)(hb: ∀x∈b,x.v.length≤131072):ao prog 106 [bn a,bn b] (.bool (fM a b)):=by
 show ao _ _ [.sl a.length (a.flatMap At.c),.sl b.length (b.flatMap At.c)] _
 refine ah func106 rfl call106 ?_ ?_
 rotate_left 1
 refine af (s':=(.sl a.length (a.flatMap At.c):V)::(.sl b.length (b.flatMap At.c):V)::zJ 31) rfl ?_;dsimp only[zJ]
 by_cases h0: ¬(a.length:Int)=b.length
 ·repeat' (first|refine Z3 h0 ?_|refine Zt ?_|(refine Yb rfl ?_ ?_<;>intro ab<;>(try simp at ab)<;>try exact dc)|refine Z6 h0 ?_|fail)
  rw[show fM a b=false by simp[fM];omega]
  exact .pure .bool
 replace h0:(a.length:Int)=b.length:=by omega
 have hE:fM a b=(a.all (hasB b)&&b.all (hasB a)):=by simp[fM];omega
 rw[hE]
 have hm1: ∀x∈a,ao prog 155 [.sl b.length (b.flatMap At.c),.agg [.str x.t,.int .i64 x.k,.str x.v]] (.bool (hasB b x)):=fun x hx=>Hl b x Ie hb (ha _ hx)
 have j3: ∀x∈b,ao prog 155 [.sl a.length (a.flatMap At.c),.agg [.str x.t,.int .i64 x.k,.str x.v]] (.bool (hasB a x)):=fun x hx=>Hl a x yC ha (hb _ hx)
 have eu:=la a
 have cv:=qA a
 have agz:=la b
 have FV:=qA b
 generalize a.flatMap At.c=ca at*
 generalize b.flatMap At.c=cb at*
 repeat' (first|refine Z3 h0 ?_|refine Zt ?_|(refine Yb rfl ?_ ?_<;>intro ab<;>(try simp at ab)<;>try exact dc)|refine Z6 h0 ?_|fail)
 ·refine bm (α:=Nat) (fun i=>(zN 4 (zS 8 (none::some (V.int .i64 i)::zS 19 [])))) (fun i=> []) (fun i=>i≤b.length∧ ∀j (h:j<b.length),j<i→hasB b (a[j]'(by omega))=true∧hasB a b[j]=true) (fun i=>b.length-i) 0 ⟨by omega,fun j _ h=>by omega⟩ ?_ ?_
  ·dsimp only[aE,zN,zS]
   exact Yr [] (by simp[ae])
  rintro i ⟨hi,hall⟩ KL hL
  dsimp only[aE,zN,zS]
  rcases apQ i b.length with hi|hi
  ·have zF:i<a.length:=by omega
   have aP:hasB b a[i]=true→hasB a b[i]=true→i+1≤b.length∧ ∀j (h:j<b.length),j<i+1→hasB b (a[j]'(by omega))=true∧hasB a b[j]=true:=fun hx hy=>⟨by omega,fun j hj h=>by
    rcases apQ j i with h3|h3
    ·exact hall j hj h3
    ·obtain rfl:j=i:=by omega
     exact⟨hx,hy⟩⟩
   have SA:hasB b a[i]=false→(a.all (hasB b)&&b.all (hasB a))=false:=fun h=>by rw[all_false zF h];rfl
   have BS:hasB a b[i]=false→(a.all (hasB b)&&b.all (hasB a))=false:=fun h=>by rw[all_false hi h,Bool.and_false]
   have hg:=cv i zF
   have lL:=FV i hi
   have hm:=hm1 a[i] (apY _)
   have j3:=j3 b[i] (apY _)
   obtain⟨x,dY⟩: ∃x,a[i]=x:=⟨_,rfl⟩
   obtain⟨y,Al⟩: ∃x,b[i]=x:=⟨_,rfl⟩
   rw[dY]at aP hg hm SA
   rw[Al]at aP lL j3 BS
   rw[show x.c=[.str x.t,.int .i64 x.k,.str x.v]from rfl]at hg
   rw[show y.c=[.str y.t,.int .i64 y.k,.str y.v]from rfl]at lL
   cases h1:hasB b x
   ·rw[h1]at hm
    repeat' (first|refine Z4 (Zj h0 (Zj hg (Zj lL h1))) (Zj hm j3) ?_|refine Zt ?_|(refine Yb rfl ?_ ?_<;>intro ab<;>(try simp at ab)<;>try exact dc)|refine Z6 (Zj h0 (Zj hg (Zj lL h1))) ?_|fail)
    rw[SA h1]
    exact .pure .bool
   ·cases h2:hasB a y
    ·rw[h1]at hm
     rw[h2]at j3
     repeat' (first|refine Z4 (Zj h0 (Zj hg (Zj lL (Zj h1 h2)))) (Zj hm j3) ?_|refine Zt ?_|(refine Yb rfl ?_ ?_<;>intro ab<;>(try simp at ab)<;>try exact dc)|refine Z6 (Zj h0 (Zj hg (Zj lL (Zj h1 h2)))) ?_|fail)
     rw[BS h2]
     exact .pure .bool
    ·rw[h1]at hm
     rw[h2]at j3
     repeat' (first|refine Z4 (Zj h0 (Zj hg (Zj lL (Zj h1 h2)))) (Zj hm j3) ?_|refine Zt ?_|(refine Yb rfl ?_ ?_<;>intro ab<;>(try simp at ab)<;>try exact dc)|refine Z6 (Zj h0 (Zj hg (Zj lL (Zj h1 h2)))) ?_|fail)
     refine hL (i+1) _ _ (aP h1 h2) (by omega) ?_
     exact Yr [] (by simp[ae])
  ·repeat' (first|refine Z3 h0 ?_|refine Zt ?_|(refine Yb rfl ?_ ?_<;>intro ab<;>(try simp at ab)<;>try exact dc)|refine Z6 h0 ?_|fail)
   rw[all_true fun j hj=>(hall j (by omega) (by omega)).1,all_true fun j hj=>(hall j hj (by omega)).2]
   exact .pure .bool
 ·exact .bool
theorem oK(a b:Nm)(ha:WN a)(hb:WN b):ao prog 61 [.agg [aW a],.agg [aW b]] (.bool (et a b)):=by
 unfold aW
 refine ah func61 rfl call61 ?_ ?_
 rotate_left 1
 refine af (s':=(.agg [.sl a.length (a.map bn)]:V)::(.agg [.sl b.length (b.map bn)]:V)::zJ 30) rfl ?_;dsimp only[zJ]
 by_cases h0:(a.length:Int)<b.length
 ·repeat' (first|refine Z0 h0 ?_|refine Zt ?_|(refine Zk 0 [] ?_;refine Zl ?_)|(refine Yb rfl ?_ ?_<;>intro ab<;>(try simp at ab)<;>try exact dc))
  rw[show et a b=false by simp[et];omega]
  exact .pure .bool
 have yC:=ha.1
 have Ie:=hb.1
 have SB:b.length≤a.length:=by omega
 repeat' (first|refine Z0 h0 ?_|refine Zt ?_|(refine Zk 0 [] ?_;refine Zl ?_)|(refine Yb rfl ?_ ?_<;>intro ab<;>(try simp at ab)<;>try exact dc))
 ·refine bm (α:=Nat) (fun i=>(zS 2 (zN 2 (zS 11 (none::some (V.int .i64 i)::zS 15 []))))) (fun i=> [.live [.sl a.length (a.map bn)],.live [.sl b.length (b.map bn)]]) (fun i=>i≤b.length∧ ∀j (h:j<b.length),j<i→fM (a[j]'(by omega)) b[j]=true) (fun i=>b.length-i) 0 ⟨by omega,fun j _ h=>by omega⟩ ?_ ?_
  ·dsimp only[aE,zN,zS]
   exact Yr [some 0,some 1] (by simp[ae])
  rintro i ⟨hi,hall⟩ KL hL
  dsimp only[aE,zN,zS]
  rcases apQ i b.length with hi|hi
  ·have zF:i<a.length:=by omega
   have aP:fM a[i] b[i]=true→i+1≤b.length∧ ∀j (h:j<b.length),j<i+1→fM (a[j]'(by omega)) b[j]=true:=fun hx=>⟨by omega,fun j hj h=>by
    rcases apQ j i with h3|h3
    ·exact hall j hj h3
    ·obtain rfl:j=i:=by omega
     exact hx⟩
   have hf:=Hi hi SB
   have hm:=PM a[i] b[i] (ha.2 _ (apY _)).1 (ha.2 _ (apY _)).2 (hb.2 _ (apY _)).1 (hb.2 _ (apY _)).2
   obtain⟨x,dY⟩: ∃x,a[i]=x:=⟨_,rfl⟩
   obtain⟨y,Al⟩: ∃x,b[i]=x:=⟨_,rfl⟩
   rw[dY,Al]at aP hm hf
   cases h1:fM x y
   ·rw[h1]at hm
    repeat' (first|(refine Zu ?_;intro K9 h9;simp(disch:=first|exact dd|fail) [h0,dY,Al,h1];refine Zm ?_;((first|refine⟨_,hm,?_⟩|skip)<;>(refine Zf h9 ?_;clear h9 K9)))|refine Zt ?_|((first|refine Zk 0 [0,0,0,0,1,0,0,0,0,1,1] ?_|refine Zk 0 [] ?_);refine Zl ?_)|(refine Yb rfl ?_ ?_<;>intro ab<;>(try simp at ab)<;>try exact dc))
    rw[hf h1]
    exact .pure .bool
   ·rw[h1]at hm
    repeat' (first|(refine Zu ?_;intro K9 h9;simp(disch:=first|exact dd|fail) [h0,dY,Al,h1];refine Zm ?_;((first|refine⟨_,hm,?_⟩|skip)<;>(refine Zf h9 ?_;clear h9 K9)))|refine Zt ?_|((first|refine Zk 0 [0,0,0,0,1,0,0,0,0,1,1] ?_|refine Zk 0 [] ?_);refine Zl ?_)|(refine Yb rfl ?_ ?_<;>intro ab<;>(try simp at ab)<;>try exact dc))
    refine hL (i+1) _ _ (aP h1) (by omega) ?_
    exact Yr [some 0,some 1] (by simp[ae])
  ·repeat' (first|refine Z0 h0 ?_|refine Zt ?_|(refine Zk 0 [] ?_;refine Zl ?_)|(refine Yb rfl ?_ ?_<;>intro ab<;>(try simp at ab)<;>try exact dc))
   rw[K5 SB fun j hj=>hall j hj (by omega)]
   exact .pure .bool
 ·exact .bool
end Go.Proofs.YtjlnoogcggdhkaaGreatDoor
