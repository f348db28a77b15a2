/-
 HOST: bits of addresses.
 Conditions: none.
-/
import Derived.Test.YtjlnoogcggdhkaaGreatDoorJa
set_option maxRecDepth 100000
set_option maxHeartbeats 32000000
set_option linter.all false
namespace Go.Proofs.YtjlnoogcggdhkaaGreatDoor.Ho
open Go.VS Go.Hst
attribute [local irreducible] bj au bE aS bz
def iZ(m:List UInt8)(i:Nat):Bool:=(m.getD (i/8) 0).toNat/2^(7-i%8)%2==1
theorem agA: ∀x,x<256→bits .and .u8 ((x:Nat):Int) 1=((x%2:Nat):Int):=by decide+kernel
theorem yg(m:List UInt8)(i:Nat)(hi:i<8*m.length)(hm:m.length≤1000000):ao Tryz.prog 277 [.str m,.int .i64 i] (.bool (iZ m i)):=by
 refine ah Tryz.func277 rfl Tryz.call277 ?_ ?_
 rotate_left 1
 refine af (s':=(.str m:V)::(.int .i64 i:V)::zJ 14) rfl ?_;dsimp only[zJ]
 have hq:i/8<m.length:=by omega
 have e1:((i:Int)/8).toNat=i/8:=by omega
 obtain⟨r,hr⟩: ∃r,i%8=r:=⟨_,rfl⟩
 have hr8:r<8:=by omega
 have e2:(i:Int)%8=r:=by omega
 have e3:((7:Int)-r).toNat=7-r:=by omega
 have e4:min (7-r) 8=7-r:=by omega
 obtain⟨c,hc⟩: ∃c,m[i/8]=c:=⟨_,rfl⟩
 have hc8:c.toNat<256:=aqk _
 have hb:iZ m i=(c.toNat/2^(7-r)%2==1):=by
  rw[iZ,hr,ap2,ap5 hq,hc];rfl
 rw[hb]
 have hx:c.toNat/2^(7-r)<256:=arx (arP _ _) hc8
 have ha:=agA _ hx
 have hv:(bits .and .u8 ((c.toNat:Int)/2^(7-r)) 1==1)=(c.toNat/2^(7-r)%2==1):=by
  have:(c.toNat:Int)/2^(7-r)=((c.toNat/2^(7-r):Nat):Int):=by simp
  rw[this,ha]
  generalize c.toNat/2^(7-r)%2=y
  rw[aqP];simp;omega
 repeat' (first|refine Z0U (Zj e1 (Zj e2 (Zj e3 (Zj e4 hc)))) ?_|refine ay ?_|fail)
 rw[←hv]
 exact .pure .bool
 ·exact .bool
def kq(m:List UInt8)(i:Nat):Bool:=(List.range i).any fun j=>!iZ m j
def fJ(a m:List UInt8)(i:Nat):Bool:=if iZ m i=true then !kq m i else !iZ a i
def rl(b:List UInt8)(h:Nat):Bool:=(List.range (8*h)).all (fJ (b.take h) (b.drop h))
def iu(b:List UInt8):Bool:=(decide (b.length=8)&&rl b 4)||(decide (b.length=32)&&rl b 16)
def j1(b:List UInt8):Bool:=decide (b.length=4)||decide (b.length=16)
theorem uV(m:List UInt8)(i:Nat):kq m (i+1)=(kq m i||!iZ m i):=by simp[kq,aqV]
theorem iG{n i:Nat}{p:Nat→Bool}(hi:i<n)(h:p i=false):(List.range n).all p=false:=by
 rw[arz];exact⟨i,aqv.2 hi,by simp[h]⟩
theorem gU{n:Nat}{p:Nat→Bool}(h: ∀i,i<n→p i=true):(List.range n).all p=true:=by
 rw[ap1];exact fun i hi=>h i (aqv.1 hi)
theorem qv(b:List UInt8)(hb:b.length≤1000000):ao Tryz.prog 239 [.str b] (.aB [.str (b.take (b.length/2)),.str (b.drop (b.length/2))]):=by
 refine ah Tryz.func239 rfl Tryz.call239 ?_ ?_
 rotate_left 1
 refine af (s':=(.str b:V)::zJ 13) rfl ?_;dsimp only[zJ]
 have e:((b.length:Int)/2).toNat=b.length/2:=by omega
 repeat' (first|refine Z0 (Zj e @apR.{0}) ?_|refine Zt ?_|(refine Zk 0 [] ?_;refine Zl ?_)|fail)
 ·simp[apR]
  exact .pure (by simp)
 ·simp
theorem SD(b:List UInt8)(hb:b.length≤1000000):ao Tryz.prog 240 [.str b] (.bool (j1 b)):=by
 refine ah Tryz.func240 rfl Tryz.call240 ?_ ?_
 rotate_left 1
 refine af (s':=(.str b:V)::zJ 10) rfl ?_;dsimp only[zJ]
 by_cases h1:b.length=4
 ·have iQ:(b.length:Int)=4:=by omega
  repeat' (first|refine b9 (Zj h1 iQ) ?_|refine ay ?_|refine aK (Zj h1 iQ) ?_|fail)
  simp[j1,h1]
  exact .pure .bool
 ·have iQ: ¬(b.length:Int)=4:=by omega
  by_cases h2:b.length=16
  ·have eX:(b.length:Int)=16:=by omega
   repeat' (first|refine b9 (Zj iQ (Zj h2 eX)) ?_|refine ay ?_|refine aK (Zj iQ (Zj h2 eX)) ?_|fail)
   simp[j1,h2]
   exact .pure .bool
  ·have eX: ¬(b.length:Int)=16:=by omega
   have e:((b.length:Int)==16)=false:=beq_false_of_ne eX
   repeat' (first|refine b9 (Zj iQ eX) ?_|refine ay ?_|refine aK (Zj iQ eX) ?_|fail)
   simp[j1,h1,h2,e]
   exact .pure .bool
 ·exact .bool
theorem O1(b:List UInt8)(hb:b.length≤1000000):ao Tryz.prog 251 [.str b] (.bool (j1 b)):=by
 refine ah Tryz.func251 rfl Tryz.call251 ?_ ?_
 rotate_left 1
 refine af (s':=(.str b:V)::zJ 10) rfl ?_;dsimp only[zJ]
 by_cases h1:b.length=4
 ·have iQ:(b.length:Int)=4:=by omega
  repeat' (first|refine b9 (Zj h1 iQ) ?_|refine ay ?_|refine aK (Zj h1 iQ) ?_|fail)
  simp[j1,h1]
  exact .pure .bool
 ·have iQ: ¬(b.length:Int)=4:=by omega
  by_cases h2:b.length=16
  ·have eX:(b.length:Int)=16:=by omega
   repeat' (first|refine b9 (Zj iQ (Zj h2 eX)) ?_|refine ay ?_|refine aK (Zj iQ (Zj h2 eX)) ?_|fail)
   simp[j1,h2]
   exact .pure .bool
  ·have eX: ¬(b.length:Int)=16:=by omega
   have e:((b.length:Int)==16)=false:=beq_false_of_ne eX
   repeat' (first|refine b9 (Zj iQ eX) ?_|refine ay ?_|refine aK (Zj iQ eX) ?_|fail)
   simp[j1,h1,h2,e]
   exact .pure .bool
 ·exact .bool
theorem J1{b:List UInt8}(h1:b.length≠8)(h2:b.length≠32):iu b=false:=by simp[iu,h1,h2]
theorem VF{b:List UInt8}(h:b.length=8):iu b=rl b 4:=by simp[iu,h]
theorem Rv{b:List UInt8}(h:b.length=32):iu b=rl b 16:=by simp[iu,h]
end Go.Proofs.YtjlnoogcggdhkaaGreatDoor.Ho
namespace Go.Proofs.YtjlnoogcggdhkaaGreatDoor.Ho
open Go.VS Go.Hst
attribute [local irreducible] bj au bE aS bz
theorem EM(b:List UInt8)(hb:b.length≤1000000):ao Tryz.prog 238 [.str b] (.bool (iu b)):=by
 refine ah Tryz.func238 rfl Tryz.call238 ?_ ?_
 rotate_left 1
 refine af (s':=(.str b:V)::zJ 48) rfl ?_;dsimp only[zJ]
 by_cases h8:b.length=8
 ·have hv:=qv b hb
  rw[VF h8]
  rw[h8,show 8/2=4 from rfl]at hv
  unfold rl
  obtain⟨n,hn⟩: ∃n,8*4=n:=⟨_,rfl⟩
  rw[hn]
  replace hn:n=32:=hn.symm
  have ry:(b.take 4).length=4:=by simp;omega
  have rp:(b.drop 4).length=4:=by simp;omega
  generalize b.take 4=a at*
  generalize b.drop 4=m at*
  have agB:(m.length:Int)=4:=by omega
  repeat' (first|refine bS h8 hv ?_|refine ay ?_|(refine Yb rfl ?_ ?_<;>intro ab<;>(try simp at ab)<;>try exact dc)|refine aK h8 ?_|fail)
  refine bm (α:=Nat) (fun i=>(some V.aa::none::some V.aa::zN 2 (some (V.bool (kq m i))::some (V.int .i64 i)::zS 42 []))) (fun i=> []) (fun i=>i≤n∧ ∀j,j<i→fJ a m j=true) (fun i=>n-i) 0 ⟨by omega,fun j h=>by omega⟩ ?_ ?_
  ·dsimp only[aE,zN,zS]
   exact Le.mk [] (by simp[kq]) (aZ (by simp) (by simp[ae])) (by simp)
  rintro i ⟨hi,hall⟩ KL hL
  dsimp only[aE,zN,zS]
  rcases apQ i n with hi|hi
  ·have c1:=yg m i (by omega) (by omega)
   have c2:=yg a i (by omega) (by omega)
   have aP:fJ a m i=true→i+1≤n∧ ∀j,j<i+1→fJ a m j=true:=fun hx=>⟨by omega,fun j h=>by
    rcases apQ j i with h3|h3
    ·exact hall j h3
    ·obtain rfl:j=i:=by omega
     exact hx⟩
   have dT:fJ a m i=false→(List.range n).all (fJ a m)=false:=iG hi
   have hz:=uV m i
   have dF:(i:Int)<8*m.length:=by omega
   cases b1:iZ m i<;>rw[b1]at c1 hz
   ·cases b2:iZ a i<;>rw[b2]at c2
    ·cases b3:kq m i<;>rw[b3]at hz
     ·repeat' (first|refine bS dF (Zj c1 c2) ?_|refine ay ?_|(refine Yb rfl ?_ ?_<;>intro ab<;>(try simp at ab)<;>try exact dc)|refine aK dF ?_|fail)
      refine hL (i+1) _ _ (aP (by simp[fJ,b1,b2])) (by omega) ?_
      rw[hz]
      exact Yr [] (by simp[ae])
     ·repeat' (first|refine bS dF (Zj c1 c2) ?_|refine ay ?_|(refine Yb rfl ?_ ?_<;>intro ab<;>(try simp at ab)<;>try exact dc)|refine aK dF ?_|fail)
      refine hL (i+1) _ _ (aP (by simp[fJ,b1,b2])) (by omega) ?_
      rw[hz]
      exact Yr [] (by simp[ae])
    ·repeat' (first|refine bS dF (Zj c1 c2) ?_|refine ay ?_|(refine Yb rfl ?_ ?_<;>intro ab<;>(try simp at ab)<;>try exact dc)|refine aK dF ?_|fail)
     rw[dT (by simp[fJ,b1,b2])]
     exact .pure .bool
   ·cases b2:kq m i<;>rw[b2]at hz
    ·repeat' (first|refine bS dF c1 ?_|refine ay ?_|(refine Yb rfl ?_ ?_<;>intro ab<;>(try simp at ab)<;>try exact dc)|refine aK dF ?_|fail)
     refine hL (i+1) _ _ (aP (by simp[fJ,b1,b2])) (by omega) ?_
     rw[hz]
     exact Yr [] (by simp[ae])
    ·repeat' (first|refine bS dF c1 ?_|refine ay ?_|(refine Yb rfl ?_ ?_<;>intro ab<;>(try simp at ab)<;>try exact dc)|refine aK dF ?_|fail)
     rw[dT (by simp[fJ,b1,b2])]
     exact .pure .bool
  ·have dF: ¬(i:Int)<8*m.length:=by omega
   repeat' (first|refine b9 dF ?_|refine ay ?_|(refine Yb rfl ?_ ?_<;>intro ab<;>(try simp at ab)<;>try exact dc)|refine aK dF ?_|fail)
   rw[gU fun j hj=>hall j (by omega)]
   exact .pure .bool
 by_cases kX:b.length=32
 ·have hv:=qv b hb
  rw[Rv kX]
  rw[kX,show 32/2=16 from rfl]at hv
  unfold rl
  obtain⟨n,hn⟩: ∃n,8*16=n:=⟨_,rfl⟩
  rw[hn]
  replace hn:n=128:=hn.symm
  have ry:(b.take 16).length=16:=by simp;omega
  have rp:(b.drop 16).length=16:=by simp;omega
  generalize b.take 16=a at*
  generalize b.drop 16=m at*
  have agB:(m.length:Int)=16:=by omega
  repeat' (first|refine bS kX hv ?_|refine ay ?_|(refine Yb rfl ?_ ?_<;>intro ab<;>(try simp at ab)<;>try exact dc)|refine aK kX ?_|fail)
  refine bm (α:=Nat) (fun i=>(some V.aa::none::some V.aa::zN 2 (some (V.bool (kq m i))::some (V.int .i64 i)::zS 42 []))) (fun i=> []) (fun i=>i≤n∧ ∀j,j<i→fJ a m j=true) (fun i=>n-i) 0 ⟨by omega,fun j h=>by omega⟩ ?_ ?_
  ·dsimp only[aE,zN,zS]
   exact Le.mk [] (by simp[kq]) (aZ (by simp) (by simp[ae])) (by simp)
  rintro i ⟨hi,hall⟩ KL hL
  dsimp only[aE,zN,zS]
  rcases apQ i n with hi|hi
  ·have c1:=yg m i (by omega) (by omega)
   have c2:=yg a i (by omega) (by omega)
   have aP:fJ a m i=true→i+1≤n∧ ∀j,j<i+1→fJ a m j=true:=fun hx=>⟨by omega,fun j h=>by
    rcases apQ j i with h3|h3
    ·exact hall j h3
    ·obtain rfl:j=i:=by omega
     exact hx⟩
   have dT:fJ a m i=false→(List.range n).all (fJ a m)=false:=iG hi
   have hz:=uV m i
   have dF:(i:Int)<8*m.length:=by omega
   cases b1:iZ m i<;>rw[b1]at c1 hz
   ·cases b2:iZ a i<;>rw[b2]at c2
    ·cases b3:kq m i<;>rw[b3]at hz
     ·repeat' (first|refine bS dF (Zj c1 c2) ?_|refine ay ?_|(refine Yb rfl ?_ ?_<;>intro ab<;>(try simp at ab)<;>try exact dc)|refine aK dF ?_|fail)
      refine hL (i+1) _ _ (aP (by simp[fJ,b1,b2])) (by omega) ?_
      rw[hz]
      exact Yr [] (by simp[ae])
     ·repeat' (first|refine bS dF (Zj c1 c2) ?_|refine ay ?_|(refine Yb rfl ?_ ?_<;>intro ab<;>(try simp at ab)<;>try exact dc)|refine aK dF ?_|fail)
      refine hL (i+1) _ _ (aP (by simp[fJ,b1,b2])) (by omega) ?_
      rw[hz]
      exact Yr [] (by simp[ae])
    ·repeat' (first|refine bS dF (Zj c1 c2) ?_|refine ay ?_|(refine Yb rfl ?_ ?_<;>intro ab<;>(try simp at ab)<;>try exact dc)|refine aK dF ?_|fail)
     rw[dT (by simp[fJ,b1,b2])]
     exact .pure .bool
   ·cases b2:kq m i<;>rw[b2]at hz
    ·repeat' (first|refine bS dF c1 ?_|refine ay ?_|(refine Yb rfl ?_ ?_<;>intro ab<;>(try simp at ab)<;>try exact dc)|refine aK dF ?_|fail)
     refine hL (i+1) _ _ (aP (by simp[fJ,b1,b2])) (by omega) ?_
     rw[hz]
     exact Yr [] (by simp[ae])
    ·repeat' (first|refine bS dF c1 ?_|refine ay ?_|(refine Yb rfl ?_ ?_<;>intro ab<;>(try simp at ab)<;>try exact dc)|refine aK dF ?_|fail)
     rw[dT (by simp[fJ,b1,b2])]
     exact .pure .bool
  ·have dF: ¬(i:Int)<8*m.length:=by omega
   repeat' (first|refine b9 dF ?_|refine ay ?_|(refine Yb rfl ?_ ?_<;>intro ab<;>(try simp at ab)<;>try exact dc)|refine aK dF ?_|fail)
   rw[gU fun j hj=>hall j (by omega)]
   exact .pure .bool
 ·have Rw: ¬(b.length:Int)=8:=by omega
  have J0: ¬(b.length:Int)=32:=by omega
  rw[J1 h8 kX]
  repeat' (first|refine b9 (Zj Rw J0) ?_|refine ay ?_|(refine Yb rfl ?_ ?_<;>intro ab<;>(try simp at ab)<;>try exact dc)|refine aK (Zj Rw J0) ?_|fail)
  exact .pure .bool
 ·exact .bool
end Go.Proofs.YtjlnoogcggdhkaaGreatDoor.Ho
namespace Go.Proofs.YtjlnoogcggdhkaaGreatDoor.Ho
open Go.VS Go.Hst
attribute [local irreducible] bj au bE aS bz
theorem ofInt_u8(c:UInt8):BitVec.ofInt IntKind.u8.bits (c.toNat:Int)=c.toBitVec:=by
 apply BitVec.eq_of_toNat_eq
 rw[GJ,BitVec.toNat_ofNat]
 have h:c.toNat<256:=aqk _
 show c.toNat%2^8=c.toNat
 omega
theorem wrap_small(n:Nat)(h:n<256):IntKind.u8.wrap (n:Int)=n:=by rw[wrap_u8'];omega
theorem Ed(c d:UInt8):bits .and .u8 (c.toNat:Int) (d.toNat:Int)=((c&&&d).toNat:Int):=by
 unfold bits
 simp only[ofInt_u8]
 exact wrap_small _ (c&&&d).toNat_lt
theorem SE(c d:UInt8):bits .andNot .u8 (c.toNat:Int) (d.toNat:Int)=((c&&& ~~~d).toNat:Int):=by
 unfold bits
 simp only[ofInt_u8]
 exact wrap_small _ (c&&& ~~~d).toNat_lt
def pj(a m b:List UInt8)(i:Nat):Bool:=(a.getD i 0&&&m.getD i 0)==b.getD i 0
def rX(m o:List UInt8)(i:Nat):Bool:=(m.getD i 0&&& ~~~(o.getD i 0))==0
def ph(a m b:List UInt8)(h:Nat):Bool:=(List.range h).all (pj a m b)
def zE(m o:List UInt8)(h:Nat):Bool:=(List.range h).all (rX m o)
def Rx(a r:List UInt8)(h:Nat):Bool:=
 if a.length=r.length∧iu a=true then zE (r.drop h) (a.drop h) h&&ph (a.take h) (r.drop h) (r.take h) h else decide (a.length=h)&&(j1 a&&ph a (r.drop h) (r.take h) h)
def sF(a r:List UInt8):Bool:=iu r&&Rx a r (r.length/2)
theorem Fx{b:List UInt8}(h:iu b=true):b.length=8∨b.length=32:=by
 by_cases h8:b.length=8
 ·exact .inl h8
 by_cases kX:b.length=32
 ·exact .inr kX
 rw[J1 h8 kX]at h;cases h
theorem jr{l:List UInt8}{i:Nat}(h:i<l.length):l.getD i 0=l[i]:=by
 rw[ap2,ap5 h];rfl
theorem IC(a r:List UInt8)(ha:a.length≤1000000)(hr:r.length≤1000000):ao Tryz.prog 200 [.str a,.str r] (.bool (sF a r)):=by
 refine ah Tryz.func200 rfl Tryz.call200 ?_ ?_
 rotate_left 1
 refine af (s':=(.str a:V)::(.str r:V)::zJ 75) rfl ?_;dsimp only[zJ]
 have c1:=EM r hr
 have c2:=qv r hr
 have c3:=EM a ha
 have c4:=qv a ha
 have c5:=SD a ha
 unfold sF
 cases w1:iu r<;>rw[w1]at c1
 ·repeat' (first|refine od c1 ?_|refine ay ?_|refine Y8 fun K hK=>?_|(apply hK;clear hK K)|(refine Zk 0 [] ?_;refine Zl ?_)|(refine Yb rfl ?_ ?_<;>intro ab<;>(try simp at ab)<;>try exact dc)|refine gm ?_|refine Zx ?_|clear hK K)
  exact .pure .bool
 have hl:=Fx w1
 obtain⟨h,hh⟩: ∃h,r.length/2=h:=⟨_,rfl⟩
 rw[hh]at c2⊢
 simp only[aq9]
 have ie:r.length=2*h:=by omega
 have QC:(r.take h).length=h:=by simp;omega
 have rp:(r.drop h).length=h:=by simp;omega
 have kS:Rx a r h=if a.length=r.length∧iu a=true then zE (r.drop h) (a.drop h) h&&ph (a.take h) (r.drop h) (r.take h) h else decide (a.length=h)&&(j1 a&&ph a (r.drop h) (r.take h) h):=rfl
 generalize Rx a r h=R at*
 generalize r.take h=base at*
 generalize r.drop h=mask at*
 iterate 27 (first|refine Z5 (Zj c1 c2) ?_|refine Zt ?_|refine Y8 fun K hK=>?_|(apply hK;clear hK K)|(refine Zk 0 [] ?_;refine Zl ?_)|(refine Yb rfl ?_ ?_<;>intro ab<;>(try simp at ab)<;>try exact dc)|refine Zo ?_|refine Zx ?_|(clear hK K;first|(apply hK;clear hK K)|(clear hK K;first|(apply hK;clear hK K)|(clear hK K;first|(apply hK;clear hK K)|(clear hK K;apply hK;clear hK K)))))
 refine nU fun K hK hle=>?_
 have main: ∀x:List UInt8,x.length=h→R=ph x mask base h→K (((V.str x)::V.aa::V.aa::V.aa::V.aa::(V.str base)::(V.str mask)::V.aa::V.aa::V.aa::V.aa::V.aa::V.aa::V.aa::V.aa::V.aa::V.aa::V.aa::V.aa::V.aa::V.aa::V.aa::V.aa::V.aa::V.aa::V.aa::V.aa::V.aa::V.aa::V.aa::V.aa::V.aa::V.aa::V.aa::V.aa::V.aa::V.aa::V.aa::V.aa::V.aa::V.aa::V.aa::V.aa::V.aa::V.aa::V.aa::V.aa::V.aa::V.aa::V.aa::V.aa::V.aa::V.aa::V.aa::V.aa::V.aa::V.aa::V.aa::V.aa::V.aa::V.aa::V.aa::V.aa::V.aa::V.aa::V.aa::V.aa::V.aa::V.aa::V.aa::V.aa::V.aa::V.aa::V.aa::V.aa::V.aa::V.aa::[])) []:=by
  intro x hx hR
  rw[hR]at hK
  unfold ph at hK
  refine hK _ _ ?_
  clear hK hle K kS hR c1 c2 c3 c4 c5
  repeat' (first|refine yk ?_|refine ay ?_|refine Y8 fun K hK=>?_|(apply hK;clear hK K)|(refine Zk 0 [] ?_;refine Zl ?_)|(refine Yb rfl ?_ ?_<;>intro ab<;>(try simp at ab)<;>try exact dc)|refine gm ?_|refine Zx ?_|clear hK K)
  refine bm (α:=Nat) (fun i=>(none::some V.aa::zN 2 (some V.aa::zN 2 (zS 54 (none::some (V.int .i64 i)::zS 14 []))))) (fun i=> [.live (mask.map aF)]) (fun i=>i≤h∧ ∀j,j<i→pj x mask base j=true) (fun i=>h-i) 0 ⟨by omega,fun j h=>by omega⟩ ?_ ?_
  ·dsimp only[aE,zN,zS]
   exact Yr [some 0] (by simp[ae])
  rintro i ⟨hi,hall⟩ KL hL
  dsimp only[aE,zN,zS]
  rcases apQ i h with hi|hi
  ·have jX:i<mask.length:=by omega
   have Ri:i<base.length:=by omega
   have SC:i<x.length:=by omega
   have aP:pj x mask base i=true→i+1≤h∧ ∀j,j<i+1→pj x mask base j=true:=fun hx=>⟨by omega,fun j h=>by
    rcases apQ j i with h3|h3
    ·exact hall j h3
    ·obtain rfl:j=i:=by omega
     exact hx⟩
   have dT:pj x mask base i=false→(List.range h).all (pj x mask base)=false:=iG hi
   have bA:pj x mask base i=((x[i]&&&mask[i])==base[i]):=by unfold pj;rw[jr SC,jr jX,jr Ri]
   obtain⟨c,hc⟩: ∃c,x[i]=c:=⟨_,rfl⟩
   obtain⟨d,hd⟩: ∃c,mask[i]=c:=⟨_,rfl⟩
   obtain⟨e,he⟩: ∃c,base[i]=c:=⟨_,rfl⟩
   rw[hc,hd,he]at bA
   have hand:=Ed c d
   generalize c&&&d=q at*
   by_cases hq:q=e
   ·have gi:(q.toNat:Int)=e.toNat:=by rw[hq]
    repeat' (first|refine b9 (Zj hc (Zj hd (Zj he (Zj hand gi)))) ?_|refine ay ?_|refine Y8 fun K hK=>?_|(apply hK;clear hK K)|(refine Zk 0 [] ?_;refine Zl ?_)|(refine Yb rfl ?_ ?_<;>intro ab<;>(try simp at ab)<;>try exact dc)|refine aK (Zj hc (Zj hd (Zj he (Zj hand gi)))) ?_|refine Zx ?_|clear hK K)
    refine hL (i+1) _ _ (aP (by rw[bA,hq];simp)) (by omega) ?_
    exact Yr [some 0] (by simp[ae])
   ·have gi: ¬(q.toNat:Int)=e.toNat:=Dg hq
    repeat' (first|refine b9 (Zj hc (Zj hd (Zj he (Zj hand gi)))) ?_|refine ay ?_|refine Y8 fun K hK=>?_|(apply hK;clear hK K)|(refine Zk 0 [] ?_;refine Zl ?_)|(refine Yb rfl ?_ ?_<;>intro ab<;>(try simp at ab)<;>try exact dc)|refine aK (Zj hc (Zj hd (Zj he (Zj hand gi)))) ?_|refine Zx ?_|clear hK K)
    rw[dT (by rw[bA];simp[hq])]
    exact .pure .bool
  ·repeat' (first|refine yk ?_|refine ay ?_|refine Y8 fun K hK=>?_|(apply hK;clear hK K)|(refine Zk 0 [] ?_;refine Zl ?_)|(refine Yb rfl ?_ ?_<;>intro ab<;>(try simp at ab)<;>try exact dc)|refine gm ?_|refine Zx ?_|clear hK K)
   rw[gU fun j hj=>hall j (by omega)]
   exact .pure .bool
 by_cases g1:a.length=r.length
 case neg=>
  have qQ: ¬(a.length:Int)=r.length:=by omega
  rw[if_neg (fun h=>g1 h.1)]at kS
  by_cases g2:a.length=h
  ·have rB:(a.length:Int)=base.length:=by omega
   have g3: ¬(base.length:Int)=r.length:=by omega
   cases w2:j1 a<;>rw[w2]at c5 kS
   ·have hR:R=false:=by rw[kS];simp
    rw[hR]at hK⊢
    repeat' (first|refine bS (Zj qQ (Zj rB g3)) c5 ?_|refine ay ?_|refine Y8 fun K hK=>?_|(apply hK;clear hK K)|(refine Zk 0 [] ?_;refine Zl ?_)|(refine Yb rfl ?_ ?_<;>intro ab<;>(try simp at ab)<;>try exact dc)|refine aK (Zj qQ (Zj rB g3)) ?_|refine Zx ?_|clear hK K)
    exact .pure .bool
   ·have hR:R=ph a mask base h:=by rw[kS];simp[g2]
    repeat' (first|refine bS (Zj qQ (Zj rB g3)) c5 ?_|refine ay ?_|refine Y8 fun K hK=>?_|(apply hK;clear hK K)|(refine Zk 0 [] ?_;refine Zl ?_)|(refine Yb rfl ?_ ?_<;>intro ab<;>(try simp at ab)<;>try exact dc)|refine aK (Zj qQ (Zj rB g3)) ?_|refine Zx ?_|clear hK K)
    exact hle _ _ _ _ (Le.drop (by simp)) (main a g2 hR)
  ·have rB: ¬(a.length:Int)=base.length:=by omega
   have hR:R=false:=by rw[kS];simp[g2]
   rw[hR]at hK⊢
   repeat' (first|refine b9 (Zj qQ rB) ?_|refine ay ?_|refine Y8 fun K hK=>?_|(apply hK;clear hK K)|(refine Zk 0 [] ?_;refine Zl ?_)|(refine Yb rfl ?_ ?_<;>intro ab<;>(try simp at ab)<;>try exact dc)|refine aK (Zj qQ rB) ?_|refine Zx ?_|clear hK K)
   exact .pure .bool
 have qQ:(a.length:Int)=r.length:=by omega
 cases w2:iu a<;>rw[w2]at c3 kS
 ·have g2: ¬a.length=h:=by omega
  have rB: ¬(a.length:Int)=base.length:=by omega
  have g3: ¬(r.length:Int)=base.length:=by omega
  have hR:R=false:=by rw[kS];simp[g2]
  rw[hR]at hK⊢
  repeat' (first|refine bS (Zj qQ (Zj rB g3)) c3 ?_|refine ay ?_|refine Y8 fun K hK=>?_|(apply hK;clear hK K)|(refine Zk 0 [] ?_;refine Zl ?_)|(refine Yb rfl ?_ ?_<;>intro ab<;>(try simp at ab)<;>try exact dc)|refine aK (Zj qQ (Zj rB g3)) ?_|refine Zx ?_|clear hK K)
  exact .pure .bool
 rw[if_pos ⟨g1,rfl⟩]at kS
 have Bt:(a.take h).length=h:=by simp;omega
 have pK:(a.drop h).length=h:=by simp;omega
 rw[show a.length/2=h by omega]at c4
 generalize a.take h=first at*
 generalize a.drop h=own at*
 repeat' (first|refine bS qQ (Zj c3 c4) ?_|refine ay ?_|refine Y8 fun K hK=>?_|(apply hK;clear hK K)|(refine Zk 0 [] ?_;refine Zl ?_)|(refine Yb rfl ?_ ?_<;>intro ab<;>(try simp at ab)<;>try exact dc)|refine aK qQ ?_|refine Zx ?_|clear hK K)
 refine bm (α:=Nat) (fun i=>(zS 2 (zN 2 (some V.aa::zN 4 (zS 26 (none::some (V.int .i64 i)::zS 40 [])))))) (fun i=> [.live (mask.map aF)]) (fun i=>i≤h∧ ∀j,j<i→rX mask own j=true) (fun i=>h-i) 0 ⟨by omega,fun j h=>by omega⟩ ?_ ?_
 ·dsimp only[aE,zN,zS]
  exact Yr [some 0] (by simp[ae])
 rintro i ⟨hi,hall⟩ KL hL
 dsimp only[aE,zN,zS]
 rcases apQ i h with hi|hi
 ·have jX:i<mask.length:=by omega
  have SC:i<own.length:=by omega
  have aP:rX mask own i=true→i+1≤h∧ ∀j,j<i+1→rX mask own j=true:=fun hx=>⟨by omega,fun j h=>by
   rcases apQ j i with h3|h3
   ·exact hall j h3
   ·obtain rfl:j=i:=by omega
    exact hx⟩
  have dT:rX mask own i=false→R=false:=fun hx=>by rw[kS,zE,iG hi hx];rfl
  have bA:rX mask own i=((mask[i]&&& ~~~own[i])==0):=by unfold rX;rw[jr SC,jr jX]
  obtain⟨c,hc⟩: ∃c,mask[i]=c:=⟨_,rfl⟩
  obtain⟨d,hd⟩: ∃c,own[i]=c:=⟨_,rfl⟩
  rw[hc,hd]at bA
  have hand:=SE c d
  generalize c&&& ~~~d=q at*
  by_cases hq:q=0
  ·have gi:(q.toNat:Int)=0:=by rw[hq];rfl
   repeat' (first|refine b9 (Zj hc (Zj hd (Zj hand gi))) ?_|refine ay ?_|refine Y8 fun K hK=>?_|(apply hK;clear hK K)|(refine Zk 0 [] ?_;refine Zl ?_)|(refine Yb rfl ?_ ?_<;>intro ab<;>(try simp at ab)<;>try exact dc)|refine aK (Zj hc (Zj hd (Zj hand gi))) ?_|refine Zx ?_|clear hK K)
   refine hL (i+1) _ _ (aP (by rw[bA,hq];rfl)) (by omega) ?_
   exact Yr [some 0] (by simp[ae])
  ·have gi: ¬(q.toNat:Int)=0:=fun e=>hq ((Vg _ 0 0 rfl).1 e)
   have hR:=dT (by rw[bA];simp[hq])
   repeat' (first|refine b9 (Zj hc (Zj hd (Zj hand gi))) ?_|refine ay ?_|refine Y8 fun K hK=>?_|(apply hK;clear hK K)|(refine Zk 0 [] ?_;refine Zl ?_)|(refine Yb rfl ?_ ?_<;>intro ab<;>(try simp at ab)<;>try exact dc)|refine aK (Zj hc (Zj hd (Zj hand gi))) ?_|refine Zx ?_|clear hK K)
   rw[hR]
   exact .pure .bool
 ·have hR:R=ph first mask base h:=by
   rw[kS,zE,gU fun j hj=>hall j (by omega)];rfl
  repeat' (first|refine yk ?_|refine ay ?_|refine Y8 fun K hK=>?_|(apply hK;clear hK K)|(refine Zk 0 [] ?_;refine Zl ?_)|(refine Yb rfl ?_ ?_<;>intro ab<;>(try simp at ab)<;>try exact dc)|refine gm ?_|refine Zx ?_|clear hK K)
  exact hle _ _ _ _ (Le.drop (by simp)) (main first Bt hR)
 ·exact .bool
end Go.Proofs.YtjlnoogcggdhkaaGreatDoor.Ho
