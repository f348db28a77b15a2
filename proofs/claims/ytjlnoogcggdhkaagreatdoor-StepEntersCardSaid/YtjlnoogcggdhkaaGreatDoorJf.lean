/-
 HOST: ranges of addresses by the definition.
 Conditions: none.
-/
import Derived.Test.YtjlnoogcggdhkaaGreatDoorJe
import Derived.Test.YtjlnoogcggdhkaaGreatDoorVs31
set_option maxRecDepth 100000
set_option maxHeartbeats 32000000
set_option linter.all false
namespace Go.Proofs.YtjlnoogcggdhkaaGreatDoor.Ho
open Go.VS Go.Hst
attribute [local irreducible] bj au bE aS bz
theorem AY(c:UInt8)(s:Nat):(((c.toNat:Int)/2^s).tmod 2==1)=(c.toNat/2^s%2==1):=by
 have:(c.toNat:Int)/2^s=((c.toNat/2^s:Nat):Int):=by simp
 rw[this]
 generalize c.toNat/2^s=y
 rw[Int.tmod_eq_emod_of_nonneg (by omega),aqP];simp;omega
theorem rrange_8(b:List UInt8)(hb:b.length≤1000000)(h8:b.length=8):ao Tryz.prog 250 [.str b] (.bool (iu b)):=by
 refine ah Tryz.func250 rfl Tryz.call250 ?_ ?_
 rotate_left 1
 refine af (s':=(.str b:V)::zJ 60) rfl ?_;dsimp only[zJ]
 ·rw[VF h8]
  obtain⟨h,hh⟩: ∃h,4=h:=⟨_,rfl⟩
  rw[show rl b 4=rl b h by rw[hh]]
  unfold rl
  obtain⟨n,hn⟩: ∃n,8*h=n:=⟨_,rfl⟩
  rw[hn]
  have f8:((b.length:Int) !=8)=false:=by rw[h8];rfl
  have f32:((b.length:Int) !=32)=true:=by rw[h8];rfl
  have QC:b.length=2*h:=by omega
  have e0:(b.length:Int)/2=h:=by omega
  have hh2:h≤16:=by omega
  clear hh h8
  obtain⟨a,ha⟩: ∃a,b.take h=a:=⟨_,rfl⟩
  obtain⟨m,hm⟩: ∃a,b.drop h=a:=⟨_,rfl⟩
  rw[ha,hm]
  repeat' (first|refine b9 (Zj f8 (Zj f32 e0)) ?_|refine ay ?_|(refine Yb rfl ?_ ?_<;>intro ab<;>(try simp at ab)<;>try exact dc)|refine aK (Zj f8 (Zj f32 e0)) ?_|fail)
  refine bm (α:=Nat) (fun i=>(zN 2 (some V.aa::none::some (V.bool (kq m i))::some (V.int .i64 i)::zS 55 []))) (fun i=> []) (fun i=>i≤n∧ ∀j,j<i→fJ a m j=true) (fun i=>n-i) 0 ⟨by omega,fun j h=>by omega⟩ ?_ ?_
  ·dsimp only[aE,zN,zS]
   exact Le.mk [] (by simp[kq]) (aZ (by simp) (by simp[ae])) (by simp)
  rintro i ⟨hi,hall⟩ KL hL
  dsimp only[aE,zN,zS]
  rcases apQ i n with hi|hi
  ·have aP:fJ a m i=true→i+1≤n∧ ∀j,j<i+1→fJ a m j=true:=fun hx=>⟨by omega,fun j h=>by
    rcases apQ j i with h3|h3
    ·exact hall j h3
    ·obtain rfl:j=i:=by omega
     exact hx⟩
   have dT:fJ a m i=false→(List.range n).all (fJ a m)=false:=iG hi
   have hz:=uV m i
   have dF:(i:Int)<8*h:=by omega
   have yN:i/8<b.length:=by omega
   have ru:h+i/8<b.length:=by omega
   have e1:((i:Int)/8).toNat=i/8:=by omega
   have e2:((h:Int)+(i:Int)/8).toNat=h+i/8:=by omega
   obtain⟨r,hr⟩: ∃r,i%8=r:=⟨_,rfl⟩
   have hr8:r<8:=by omega
   have e3:(i:Int)%8=r:=by omega
   have e4:((7:Int)-r).toNat=7-r:=by omega
   have e5:min (7-r) 8=7-r:=by omega
   obtain⟨c,hc⟩: ∃c,b[h+i/8]=c:=⟨_,rfl⟩
   obtain⟨d,hd⟩: ∃c,b[i/8]=c:=⟨_,rfl⟩
   have pc:iZ m i=(c.toNat/2^(7-r)%2==1):=by
    rw[iZ,hr,←hm,ap2,aqb,ap5 ru,hc];rfl
   have nj:iZ a i=(d.toNat/2^(7-r)%2==1):=by
    rw[iZ,hr,←ha,ap2,aqc,if_pos (by omega),ap5 yN,hd];rfl
   have v1:=(AY c (7-r)).trans pc.symm
   have v2:=(AY d (7-r)).trans nj.symm
   clear pc nj
   cases b1:iZ m i<;>rw[b1]at v1 hz
   ·cases b2:iZ a i<;>rw[b2]at v2
    ·cases b3:kq m i<;>rw[b3]at hz
     ·repeat' (first|refine b9 (Zj dF (Zj e1 (Zj e2 (Zj e3 (Zj e4 (Zj e5 (Zj hc (Zj hd (Zj v1 v2))))))))) ?_|refine ay ?_|(refine Yb rfl ?_ ?_<;>intro ab<;>(try simp at ab)<;>try exact dc)|refine aK (Zj dF (Zj e1 (Zj e2 (Zj e3 (Zj e4 (Zj e5 (Zj hc (Zj hd (Zj v1 v2))))))))) ?_|fail)
      refine hL (i+1) _ _ (aP (by simp[fJ,b1,b2])) (by omega) ?_
      rw[hz]
      exact Yr [] (by simp[ae])
     ·repeat' (first|refine b9 (Zj dF (Zj e1 (Zj e2 (Zj e3 (Zj e4 (Zj e5 (Zj hc (Zj hd (Zj v1 v2))))))))) ?_|refine ay ?_|(refine Yb rfl ?_ ?_<;>intro ab<;>(try simp at ab)<;>try exact dc)|refine aK (Zj dF (Zj e1 (Zj e2 (Zj e3 (Zj e4 (Zj e5 (Zj hc (Zj hd (Zj v1 v2))))))))) ?_|fail)
      refine hL (i+1) _ _ (aP (by simp[fJ,b1,b2])) (by omega) ?_
      rw[hz]
      exact Yr [] (by simp[ae])
    ·repeat' (first|refine b9 (Zj dF (Zj e1 (Zj e2 (Zj e3 (Zj e4 (Zj e5 (Zj hc (Zj hd (Zj v1 v2))))))))) ?_|refine ay ?_|(refine Yb rfl ?_ ?_<;>intro ab<;>(try simp at ab)<;>try exact dc)|refine aK (Zj dF (Zj e1 (Zj e2 (Zj e3 (Zj e4 (Zj e5 (Zj hc (Zj hd (Zj v1 v2))))))))) ?_|fail)
     rw[dT (by simp[fJ,b1,b2])]
     exact .pure .bool
   ·cases b2:kq m i<;>rw[b2]at hz
    ·repeat' (first|refine b9 (Zj dF (Zj e1 (Zj e2 (Zj e3 (Zj e4 (Zj e5 (Zj hc (Zj hd v1)))))))) ?_|refine ay ?_|(refine Yb rfl ?_ ?_<;>intro ab<;>(try simp at ab)<;>try exact dc)|refine aK (Zj dF (Zj e1 (Zj e2 (Zj e3 (Zj e4 (Zj e5 (Zj hc (Zj hd v1)))))))) ?_|fail)
     refine hL (i+1) _ _ (aP (by simp[fJ,b1,b2])) (by omega) ?_
     rw[hz]
     exact Yr [] (by simp[ae])
    ·repeat' (first|refine b9 (Zj dF (Zj e1 (Zj e2 (Zj e3 (Zj e4 (Zj e5 (Zj hc (Zj hd v1)))))))) ?_|refine ay ?_|(refine Yb rfl ?_ ?_<;>intro ab<;>(try simp at ab)<;>try exact dc)|refine aK (Zj dF (Zj e1 (Zj e2 (Zj e3 (Zj e4 (Zj e5 (Zj hc (Zj hd v1)))))))) ?_|fail)
     rw[dT (by simp[fJ,b1,b2])]
     exact .pure .bool
  ·have dF: ¬(i:Int)<8*h:=by omega
   repeat' (first|refine b9 dF ?_|refine ay ?_|(refine Yb rfl ?_ ?_<;>intro ab<;>(try simp at ab)<;>try exact dc)|refine aK dF ?_|fail)
   rw[gU fun j hj=>hall j (by omega)]
   exact .pure .bool
 ·exact .bool
theorem rrange_32(b:List UInt8)(hb:b.length≤1000000)(kX:b.length=32):ao Tryz.prog 250 [.str b] (.bool (iu b)):=by
 refine ah Tryz.func250 rfl Tryz.call250 ?_ ?_
 rotate_left 1
 refine af (s':=(.str b:V)::zJ 60) rfl ?_;dsimp only[zJ]
 ·rw[Rv kX]
  obtain⟨h,hh⟩: ∃h,16=h:=⟨_,rfl⟩
  rw[show rl b 16=rl b h by rw[hh]]
  unfold rl
  obtain⟨n,hn⟩: ∃n,8*h=n:=⟨_,rfl⟩
  rw[hn]
  have f8:((b.length:Int) !=8)=true:=by rw[kX];rfl
  have f32:((b.length:Int) !=32)=false:=by rw[kX];rfl
  have QC:b.length=2*h:=by omega
  have e0:(b.length:Int)/2=h:=by omega
  have hh2:h≤16:=by omega
  clear hh kX
  obtain⟨a,ha⟩: ∃a,b.take h=a:=⟨_,rfl⟩
  obtain⟨m,hm⟩: ∃a,b.drop h=a:=⟨_,rfl⟩
  rw[ha,hm]
  repeat' (first|refine b9 (Zj f8 (Zj f32 e0)) ?_|refine ay ?_|(refine Yb rfl ?_ ?_<;>intro ab<;>(try simp at ab)<;>try exact dc)|refine aK (Zj f8 (Zj f32 e0)) ?_|fail)
  refine bm (α:=Nat) (fun i=>(zN 2 (some V.aa::none::some (V.bool (kq m i))::some (V.int .i64 i)::zS 55 []))) (fun i=> []) (fun i=>i≤n∧ ∀j,j<i→fJ a m j=true) (fun i=>n-i) 0 ⟨by omega,fun j h=>by omega⟩ ?_ ?_
  ·dsimp only[aE,zN,zS]
   exact Le.mk [] (by simp[kq]) (aZ (by simp) (by simp[ae])) (by simp)
  rintro i ⟨hi,hall⟩ KL hL
  dsimp only[aE,zN,zS]
  rcases apQ i n with hi|hi
  ·have aP:fJ a m i=true→i+1≤n∧ ∀j,j<i+1→fJ a m j=true:=fun hx=>⟨by omega,fun j h=>by
    rcases apQ j i with h3|h3
    ·exact hall j h3
    ·obtain rfl:j=i:=by omega
     exact hx⟩
   have dT:fJ a m i=false→(List.range n).all (fJ a m)=false:=iG hi
   have hz:=uV m i
   have dF:(i:Int)<8*h:=by omega
   have yN:i/8<b.length:=by omega
   have ru:h+i/8<b.length:=by omega
   have e1:((i:Int)/8).toNat=i/8:=by omega
   have e2:((h:Int)+(i:Int)/8).toNat=h+i/8:=by omega
   obtain⟨r,hr⟩: ∃r,i%8=r:=⟨_,rfl⟩
   have hr8:r<8:=by omega
   have e3:(i:Int)%8=r:=by omega
   have e4:((7:Int)-r).toNat=7-r:=by omega
   have e5:min (7-r) 8=7-r:=by omega
   obtain⟨c,hc⟩: ∃c,b[h+i/8]=c:=⟨_,rfl⟩
   obtain⟨d,hd⟩: ∃c,b[i/8]=c:=⟨_,rfl⟩
   have pc:iZ m i=(c.toNat/2^(7-r)%2==1):=by
    rw[iZ,hr,←hm,ap2,aqb,ap5 ru,hc];rfl
   have nj:iZ a i=(d.toNat/2^(7-r)%2==1):=by
    rw[iZ,hr,←ha,ap2,aqc,if_pos (by omega),ap5 yN,hd];rfl
   have v1:=(AY c (7-r)).trans pc.symm
   have v2:=(AY d (7-r)).trans nj.symm
   clear pc nj
   cases b1:iZ m i<;>rw[b1]at v1 hz
   ·cases b2:iZ a i<;>rw[b2]at v2
    ·cases b3:kq m i<;>rw[b3]at hz
     ·repeat' (first|refine b9 (Zj dF (Zj e1 (Zj e2 (Zj e3 (Zj e4 (Zj e5 (Zj hc (Zj hd (Zj v1 v2))))))))) ?_|refine ay ?_|(refine Yb rfl ?_ ?_<;>intro ab<;>(try simp at ab)<;>try exact dc)|refine aK (Zj dF (Zj e1 (Zj e2 (Zj e3 (Zj e4 (Zj e5 (Zj hc (Zj hd (Zj v1 v2))))))))) ?_|fail)
      refine hL (i+1) _ _ (aP (by simp[fJ,b1,b2])) (by omega) ?_
      rw[hz]
      exact Yr [] (by simp[ae])
     ·repeat' (first|refine b9 (Zj dF (Zj e1 (Zj e2 (Zj e3 (Zj e4 (Zj e5 (Zj hc (Zj hd (Zj v1 v2))))))))) ?_|refine ay ?_|(refine Yb rfl ?_ ?_<;>intro ab<;>(try simp at ab)<;>try exact dc)|refine aK (Zj dF (Zj e1 (Zj e2 (Zj e3 (Zj e4 (Zj e5 (Zj hc (Zj hd (Zj v1 v2))))))))) ?_|fail)
      refine hL (i+1) _ _ (aP (by simp[fJ,b1,b2])) (by omega) ?_
      rw[hz]
      exact Yr [] (by simp[ae])
    ·repeat' (first|refine b9 (Zj dF (Zj e1 (Zj e2 (Zj e3 (Zj e4 (Zj e5 (Zj hc (Zj hd (Zj v1 v2))))))))) ?_|refine ay ?_|(refine Yb rfl ?_ ?_<;>intro ab<;>(try simp at ab)<;>try exact dc)|refine aK (Zj dF (Zj e1 (Zj e2 (Zj e3 (Zj e4 (Zj e5 (Zj hc (Zj hd (Zj v1 v2))))))))) ?_|fail)
     rw[dT (by simp[fJ,b1,b2])]
     exact .pure .bool
   ·cases b2:kq m i<;>rw[b2]at hz
    ·repeat' (first|refine b9 (Zj dF (Zj e1 (Zj e2 (Zj e3 (Zj e4 (Zj e5 (Zj hc (Zj hd v1)))))))) ?_|refine ay ?_|(refine Yb rfl ?_ ?_<;>intro ab<;>(try simp at ab)<;>try exact dc)|refine aK (Zj dF (Zj e1 (Zj e2 (Zj e3 (Zj e4 (Zj e5 (Zj hc (Zj hd v1)))))))) ?_|fail)
     refine hL (i+1) _ _ (aP (by simp[fJ,b1,b2])) (by omega) ?_
     rw[hz]
     exact Yr [] (by simp[ae])
    ·repeat' (first|refine b9 (Zj dF (Zj e1 (Zj e2 (Zj e3 (Zj e4 (Zj e5 (Zj hc (Zj hd v1)))))))) ?_|refine ay ?_|(refine Yb rfl ?_ ?_<;>intro ab<;>(try simp at ab)<;>try exact dc)|refine aK (Zj dF (Zj e1 (Zj e2 (Zj e3 (Zj e4 (Zj e5 (Zj hc (Zj hd v1)))))))) ?_|fail)
     rw[dT (by simp[fJ,b1,b2])]
     exact .pure .bool
  ·have dF: ¬(i:Int)<8*h:=by omega
   repeat' (first|refine b9 dF ?_|refine ay ?_|(refine Yb rfl ?_ ?_<;>intro ab<;>(try simp at ab)<;>try exact dc)|refine aK dF ?_|fail)
   rw[gU fun j hj=>hall j (by omega)]
   exact .pure .bool
 ·exact .bool
theorem rrange_n(b:List UInt8)(hb:b.length≤1000000)(h8: ¬b.length=8)(kX: ¬b.length=32):ao Tryz.prog 250 [.str b] (.bool (iu b)):=by
 refine ah Tryz.func250 rfl Tryz.call250 ?_ ?_
 rotate_left 1
 refine af (s':=(.str b:V)::zJ 60) rfl ?_;dsimp only[zJ]
 ·have Rw: ¬(b.length:Int)=8:=by omega
  have J0: ¬(b.length:Int)=32:=by omega
  rw[J1 h8 kX]
  repeat' (first|refine b9 (Zj Rw J0) ?_|refine ay ?_|(refine Yb rfl ?_ ?_<;>intro ab<;>(try simp at ab)<;>try exact dc)|refine aK (Zj Rw J0) ?_|fail)
  exact .pure .bool
 ·exact .bool
theorem BQ(b:List UInt8)(hb:b.length≤1000000):ao Tryz.prog 250 [.str b] (.bool (iu b)):=by
 by_cases h8:b.length=8
 ·exact rrange_8 b hb h8
 by_cases kX:b.length=32
 ·exact rrange_32 b hb kX
 exact rrange_n b hb h8 kX
end Go.Proofs.YtjlnoogcggdhkaaGreatDoor.Ho
namespace Go.Proofs.YtjlnoogcggdhkaaGreatDoor.Ho
open Go.VS Go.Hst
attribute [local irreducible] bj au bE DU.au aS bz
attribute [local simp] DU.cV
theorem WV(m o:UInt8):(m&&& ~~~o==0)=(o&&&m==m):=by
 rw[aqP,beq_iff_eq,beq_iff_eq,←UInt8.toBitVec_inj,←UInt8.toBitVec_inj]
 simp only[UInt8.toBitVec_and,UInt8.toBitVec_not]
 constructor
 ·intro h
  apply BitVec.eq_of_getLsbD_eq
  intro i hi
  have:=congrArg (fun x=>x.getLsbD i) h
  simp[hi]at this⊢
  exact this
 ·intro h
  apply BitVec.eq_of_getLsbD_eq
  intro i hi
  have:=congrArg (fun x=>x.getLsbD i) h
  simp[hi]at this⊢
  exact this
def kr(a:List UInt8)(h:Nat):Bool:=j1 a&&decide (a.length=h)
def oE(a r:List UInt8)(h:Nat)(w:Bool)(i:Nat):Bool:=((a.getD i 0&&&r.getD (h+i) 0)==r.getD i 0)&&(w||(a.getD (h+i) 0&&&r.getD (h+i) 0)==r.getD (h+i) 0)
def O0(a r:List UInt8)(h:Nat):Bool:=(kr a h||(iu a&&decide (a.length=r.length)))&&(List.range h).all (oE a r h (kr a h))
theorem tG{n:Nat}{p:Nat→Bool}:(List.range n).all p=true↔ ∀i,i<n→p i=true:=by
 rw[ap1];exact⟨fun h i hi=>h i (aqv.2 hi),fun h i hi=>h i (aqv.1 hi)⟩
theorem all_congr{n:Nat}{p q:Nat→Bool}(h: ∀i,i<n→p i=q i):(List.range n).all p=(List.range n).all q:=by
 rw[aqP,tG,tG]
 exact⟨fun k i hi=>by rw[←h i hi];exact k i hi,fun k i hi=>by rw[h i hi];exact k i hi⟩
theorem getD_take{l:List UInt8}{h i:Nat}(hi:i<h):(l.take h).getD i 0=l.getD i 0:=by
 rw[ap2,ap2,aqc,if_pos hi]
theorem zD{l:List UInt8}{h i:Nat}:(l.drop h).getD i 0=l.getD (h+i) 0:=by
 rw[ap2,ap2,aqb]
theorem Z9(a r:List UInt8)(h:Nat)(hr:r.length=2*h)(hh:0<h):O0 a r h=Rx a r h:=by
 unfold O0 Rx
 by_cases h1:a.length=r.length∧iu a=true
 ·rw[if_pos h1,h1.2,decide_eq_true h1.1]
  have hw:kr a h=false:=by unfold kr;simp;intro _;omega
  rw[hw]
  simp only[Bool.and_self,Bool.or_true,aq9]
  unfold zE ph
  rw[aqP,apP,tG,tG,tG]
  have key: ∀i,i<h→(oE a r h false i=true↔rX (r.drop h) (a.drop h) i=true∧pj (a.take h) (r.drop h) (r.take h) i=true):=by
   intro i hi
   unfold oE rX pj
   rw[getD_take hi,getD_take hi,zD,zD,WV]
   simp only[arG,apP]
   exact And.comm
  exact⟨fun k=>⟨fun i hi=>((key i hi).1 (k i hi)).1,fun i hi=>((key i hi).1 (k i hi)).2⟩,fun k i hi=>(key i hi).2 ⟨k.1 i hi,k.2 i hi⟩⟩
 ·rw[if_neg h1]
  have h2:(iu a&&decide (a.length=r.length))=false:=by
   rw[Bool.and_eq_false_iff]
   by_cases h3:a.length=r.length
   ·left
    cases hb:iu a with
    |false=>rfl
    |true=>exact absurd ⟨h3,hb⟩ h1
   ·right;simpa using h3
  rw[h2,Bool.or_false]
  cases hw:kr a h
  ·unfold kr at hw
   have:(decide (a.length=h)&&(j1 a&&ph a (r.drop h) (r.take h) h))=false:=by
    rw[←Bool.and_assoc,Bool.and_comm (decide _),hw];rfl
   rw[this];rfl
  ·unfold kr at hw
   rw[apP]at hw
   rw[hw.1,hw.2]
   simp only[aq9]
   unfold ph
   refine all_congr fun i hi=>?_
   unfold oE pj
   rw[getD_take hi,zD]
   simp
theorem rawithin_t(a r:List UInt8)(ha:a.length≤1000000)(hr:r.length≤1000000)(A:j1 a=true):ao Tryz.prog 204 [.str a,.str r] (.bool (sF a r)):=by
 refine ah Tryz.func204 rfl Tryz.call204 ?_ ?_
 rotate_left 1
 refine af (s':=(.str a:V)::(.str r:V)::zJ 75) rfl ?_;dsimp only[zJ]
 have c1:=BQ r hr
 have c2:=BQ a ha
 have c3:=O1 a ha
 unfold sF
 cases w1:iu r<;>rw[w1]at c1
 ·repeat' (first|refine od c1 ?_|refine ay ?_|(refine Zk 0 [] ?_;refine Zl ?_)|(refine Yb rfl ?_ ?_<;>intro ab<;>(try simp at ab)<;>try exact dc)|refine gm ?_|fail)
  exact .pure .bool
 have hl:=Fx w1
 obtain⟨h,hh⟩: ∃h,r.length/2=h:=⟨_,rfl⟩
 have ie:r.length=2*h:=by omega
 have hh0:0<h:=by omega
 have anD:h≤16:=by omega
 have e0:(r.length:Int)/2=h:=by omega
 rw[hh,←Z9 a r h ie hh0]
 simp only[aq9]
 clear hl
 have kS:O0 a r h=((kr a h||(iu a&&decide (a.length=r.length)))&&(List.range h).all (oE a r h (kr a h))):=rfl
 generalize O0 a r h=R at*
 obtain⟨w,hw⟩: ∃w,kr a h=w:=⟨_,rfl⟩
 rw[hw]at kS
 have main: ∀(pre:(w||(iu a&&decide (a.length=r.length)))=true),R=(List.range h).all (oE a r h w):=fun pre=>by rw[kS,pre,aq9]
 have afW:j1 a=true→iu a=false:=fun hA=>by
  cases hb:iu a with
  |false=>rfl
  |true=>
   have:=Fx hb
   simp[j1]at hA
   omega
 rw[A]at c3
 ·have Z7:=afW A
  rw[Z7]at c2 kS
  by_cases g1:a.length=h
  ·have qQ:(a.length:Int)=h:=by omega
   obtain rfl:w=true:=by rw[←hw];simp[kr,A,g1]
   have hR:R=(List.range h).all (oE a r h true):=main rfl
   repeat' (first|refine Ry (Zj qQ e0) (Zj c1 (Zj c2 c3)) ?_|refine tF ?_|(refine DU.Zk 0 [] ?_;refine Zl ?_)|(refine Yb rfl ?_ ?_<;>intro ab<;>(try simp at ab)<;>try exact dc)|refine wE (Zj qQ e0) ?_|fail)
   refine bm (α:=Nat) (fun i=>(zN 4 (some V.aa::zN 2 (some (V.int .i64 i)::zS 69 [])))) (fun i=> []) (fun i=>i≤h∧ ∀j,j<i→oE a r h true j=true) (fun i=>h-i) 0 ⟨by omega,fun j h=>by omega⟩ ?_ ?_
   ·dsimp only[aE,zN,zS]
    exact Yr [] (by simp[ae])
   rintro i ⟨hi,hall⟩ KL hL
   dsimp only[aE,zN,zS]
   rcases apQ i h with hi|hi
   ·have zF:i<a.length:=by omega
    have JM:i<r.length:=by omega
    have jX:h+i<r.length:=by omega
    have e1:((h:Int)+i).toNat=h+i:=by omega
    have lX:(i:Int)<h:=by omega
    have aP:oE a r h true i=true→i+1≤h∧ ∀j,j<i+1→oE a r h true j=true:=fun hx=>⟨by omega,fun j h=>by
     rcases apQ j i with h3|h3
     ·exact hall j h3
     ·obtain rfl:j=i:=by omega
      exact hx⟩
    have dT:oE a r h true i=false→R=false:=fun hx=>by rw[hR];exact iG hi hx
    have bA:oE a r h true i=((a[i]&&&r[h+i])==r[i]):=by unfold oE;rw[jr zF,jr JM,jr jX];simp
    obtain⟨c,hc⟩: ∃c,a[i]=c:=⟨_,rfl⟩
    obtain⟨d,hd⟩: ∃c,r[h+i]=c:=⟨_,rfl⟩
    obtain⟨e,he⟩: ∃c,r[i]=c:=⟨_,rfl⟩
    rw[hc,hd,he]at bA
    have hand:=Ed c d
    generalize c&&&d=q at*
    by_cases hq:q=e
    rotate_left 1
    ·have gi: ¬(q.toNat:Int)=e.toNat:=Dg hq
     have zG:=dT (by rw[bA];simp[hq])
     repeat' (first|refine GS (Zj lX (Zj e1 (Zj hc (Zj hd (Zj he (Zj hand gi)))))) ?_|refine tF ?_|(refine DU.Zk 0 [] ?_;refine Zl ?_)|(refine Yb rfl ?_ ?_<;>intro ab<;>(try simp at ab)<;>try exact dc)|refine wE (Zj lX (Zj e1 (Zj hc (Zj hd (Zj he (Zj hand gi)))))) ?_|fail)
     rw[zG]
     exact .pure .bool
    have gi:(q.toNat:Int)=e.toNat:=by rw[hq]
    repeat' (first|refine GS (Zj lX (Zj e1 (Zj hc (Zj hd (Zj he (Zj hand gi)))))) ?_|refine tF ?_|(refine DU.Zk 0 [] ?_;refine Zl ?_)|(refine Yb rfl ?_ ?_<;>intro ab<;>(try simp at ab)<;>try exact dc)|refine wE (Zj lX (Zj e1 (Zj hc (Zj hd (Zj he (Zj hand gi)))))) ?_|fail)
    refine hL (i+1) _ _ (aP (by rw[bA,hq];simp)) (by omega) ?_
    exact Yr [] (by simp[ae])
   ·have lX: ¬(i:Int)<h:=by omega
    have hR1:R=true:=by rw[hR];exact gU fun j hj=>hall j (by omega)
    repeat' (first|refine GS lX ?_|refine tF ?_|(refine DU.Zk 0 [] ?_;refine Zl ?_)|(refine Yb rfl ?_ ?_<;>intro ab<;>(try simp at ab)<;>try exact dc)|refine wE lX ?_|fail)
    rw[hR1]
    exact .pure .bool
  ·have qQ: ¬(a.length:Int)=h:=by omega
   obtain rfl:w=false:=by rw[←hw];simp[kr,g1]
   have zG:R=false:=by rw[kS];simp
   repeat' (first|refine Ry (Zj qQ e0) (Zj c1 (Zj c2 c3)) ?_|refine tF ?_|(refine DU.Zk 0 [] ?_;refine Zl ?_)|(refine Yb rfl ?_ ?_<;>intro ab<;>(try simp at ab)<;>try exact dc)|refine wE (Zj qQ e0) ?_|fail)
   rw[zG]
   exact .pure .bool
 ·exact .bool
theorem rawithin_f(a r:List UInt8)(ha:a.length≤1000000)(hr:r.length≤1000000)(A:j1 a=false):ao Tryz.prog 204 [.str a,.str r] (.bool (sF a r)):=by
 refine ah Tryz.func204 rfl Tryz.call204 ?_ ?_
 rotate_left 1
 refine af (s':=(.str a:V)::(.str r:V)::zJ 75) rfl ?_;dsimp only[zJ]
 have c1:=BQ r hr
 have c2:=BQ a ha
 have c3:=O1 a ha
 unfold sF
 cases w1:iu r<;>rw[w1]at c1
 ·repeat' (first|refine od c1 ?_|refine ay ?_|(refine Zk 0 [] ?_;refine Zl ?_)|(refine Yb rfl ?_ ?_<;>intro ab<;>(try simp at ab)<;>try exact dc)|refine gm ?_|fail)
  exact .pure .bool
 have hl:=Fx w1
 obtain⟨h,hh⟩: ∃h,r.length/2=h:=⟨_,rfl⟩
 have ie:r.length=2*h:=by omega
 have hh0:0<h:=by omega
 have anD:h≤16:=by omega
 have e0:(r.length:Int)/2=h:=by omega
 rw[hh,←Z9 a r h ie hh0]
 simp only[aq9]
 clear hl
 have kS:O0 a r h=((kr a h||(iu a&&decide (a.length=r.length)))&&(List.range h).all (oE a r h (kr a h))):=rfl
 generalize O0 a r h=R at*
 obtain⟨w,hw⟩: ∃w,kr a h=w:=⟨_,rfl⟩
 rw[hw]at kS
 have main: ∀(pre:(w||(iu a&&decide (a.length=r.length)))=true),R=(List.range h).all (oE a r h w):=fun pre=>by rw[kS,pre,aq9]
 have afW:j1 a=true→iu a=false:=fun hA=>by
  cases hb:iu a with
  |false=>rfl
  |true=>
   have:=Fx hb
   simp[j1]at hA
   omega
 rw[A]at c3
 obtain rfl:w=false:=by rw[←hw];simp[kr,A]
 cases B:iu a<;>rw[B]at c2 kS
 ·have zG:R=false:=by rw[kS];simp
  repeat' (first|refine Ry e0 (Zj c1 (Zj c2 c3)) ?_|refine tF ?_|(refine DU.Zk 0 [] ?_;refine Zl ?_)|(refine Yb rfl ?_ ?_<;>intro ab<;>(try simp at ab)<;>try exact dc)|refine wE e0 ?_|fail)
  rw[zG]
  exact .pure .bool
 by_cases g2:a.length=r.length
 ·have rB:(a.length:Int)=r.length:=by omega
  have hR:R=(List.range h).all (oE a r h false):=main (by rw[B,g2];simp)
  repeat' (first|refine Ry (Zj rB e0) (Zj c1 (Zj c2 c3)) ?_|refine tF ?_|(refine DU.Zk 0 [] ?_;refine Zl ?_)|(refine Yb rfl ?_ ?_<;>intro ab<;>(try simp at ab)<;>try exact dc)|refine wE (Zj rB e0) ?_|fail)
  refine bm (α:=Nat) (fun i=>(zN 4 (some V.aa::zN 2 (some (V.int .i64 i)::zS 69 [])))) (fun i=> []) (fun i=>i≤h∧ ∀j,j<i→oE a r h false j=true) (fun i=>h-i) 0 ⟨by omega,fun j h=>by omega⟩ ?_ ?_
  ·dsimp only[aE,zN,zS]
   exact Yr [] (by simp[ae])
  rintro i ⟨hi,hall⟩ KL hL
  dsimp only[aE,zN,zS]
  rcases apQ i h with hi|hi
  ·have zF:i<a.length:=by omega
   have JM:i<r.length:=by omega
   have jX:h+i<r.length:=by omega
   have e1:((h:Int)+i).toNat=h+i:=by omega
   have lX:(i:Int)<h:=by omega
   have aP:oE a r h false i=true→i+1≤h∧ ∀j,j<i+1→oE a r h false j=true:=fun hx=>⟨by omega,fun j h=>by
    rcases apQ j i with h3|h3
    ·exact hall j h3
    ·obtain rfl:j=i:=by omega
     exact hx⟩
   have dT:oE a r h false i=false→R=false:=fun hx=>by rw[hR];exact iG hi hx
   have vK:h+i<a.length:=by omega
   have bA:oE a r h false i=(((a[i]&&&r[h+i])==r[i])&&((a[h+i]&&&r[h+i])==r[h+i])):=by unfold oE;rw[jr zF,jr JM,jr jX,jr vK];simp
   obtain⟨c,hc⟩: ∃c,a[i]=c:=⟨_,rfl⟩
   obtain⟨d,hd⟩: ∃c,r[h+i]=c:=⟨_,rfl⟩
   obtain⟨e,he⟩: ∃c,r[i]=c:=⟨_,rfl⟩
   obtain⟨f,hf⟩: ∃c,a[h+i]=c:=⟨_,rfl⟩
   rw[hc,hd,he,hf]at bA
   have HY:=Ed f d
   generalize f&&&d=q2 at*
   have hand:=Ed c d
   generalize c&&&d=q at*
   by_cases hq:q=e
   rotate_left 1
   ·have gi: ¬(q.toNat:Int)=e.toNat:=Dg hq
    have zG:=dT (by rw[bA];simp[hq])
    repeat' (first|refine GS (Zj lX (Zj e1 (Zj hc (Zj hd (Zj he (Zj hand gi)))))) ?_|refine tF ?_|(refine DU.Zk 0 [] ?_;refine Zl ?_)|(refine Yb rfl ?_ ?_<;>intro ab<;>(try simp at ab)<;>try exact dc)|refine wE (Zj lX (Zj e1 (Zj hc (Zj hd (Zj he (Zj hand gi)))))) ?_|fail)
    rw[zG]
    exact .pure .bool
   have gi:(q.toNat:Int)=e.toNat:=by rw[hq]
   by_cases ru:q2=d
   ·have J2:(q2.toNat:Int)=d.toNat:=by rw[ru]
    repeat' (first|refine GS (Zj lX (Zj e1 (Zj hc (Zj hd (Zj he (Zj hf (Zj hand (Zj HY (Zj gi J2))))))))) ?_|refine tF ?_|(refine DU.Zk 0 [] ?_;refine Zl ?_)|(refine Yb rfl ?_ ?_<;>intro ab<;>(try simp at ab)<;>try exact dc)|refine wE (Zj lX (Zj e1 (Zj hc (Zj hd (Zj he (Zj hf (Zj hand (Zj HY (Zj gi J2))))))))) ?_|fail)
    refine hL (i+1) _ _ (aP (by rw[bA,hq,ru];simp)) (by omega) ?_
    exact Yr [] (by simp[ae])
   ·have J2: ¬(q2.toNat:Int)=d.toNat:=Dg ru
    have zG:=dT (by rw[bA];simp[ru])
    repeat' (first|refine GS (Zj lX (Zj e1 (Zj hc (Zj hd (Zj he (Zj hf (Zj hand (Zj HY (Zj gi J2))))))))) ?_|refine tF ?_|(refine DU.Zk 0 [] ?_;refine Zl ?_)|(refine Yb rfl ?_ ?_<;>intro ab<;>(try simp at ab)<;>try exact dc)|refine wE (Zj lX (Zj e1 (Zj hc (Zj hd (Zj he (Zj hf (Zj hand (Zj HY (Zj gi J2))))))))) ?_|fail)
    rw[zG]
    exact .pure .bool
  ·have lX: ¬(i:Int)<h:=by omega
   have hR1:R=true:=by rw[hR];exact gU fun j hj=>hall j (by omega)
   repeat' (first|refine GS lX ?_|refine tF ?_|(refine DU.Zk 0 [] ?_;refine Zl ?_)|(refine Yb rfl ?_ ?_<;>intro ab<;>(try simp at ab)<;>try exact dc)|refine wE lX ?_|fail)
   rw[hR1]
   exact .pure .bool
 ·have rB: ¬(a.length:Int)=r.length:=by omega
  have zG:R=false:=by rw[kS];simp[g2]
  repeat' (first|refine Ry (Zj rB e0) (Zj c1 (Zj c2 c3)) ?_|refine tF ?_|(refine DU.Zk 0 [] ?_;refine Zl ?_)|(refine Yb rfl ?_ ?_<;>intro ab<;>(try simp at ab)<;>try exact dc)|refine wE (Zj rB e0) ?_|fail)
  rw[zG]
  exact .pure .bool
 ·exact .bool
theorem Ht(a r:List UInt8)(ha:a.length≤1000000)(hr:r.length≤1000000):ao Tryz.prog 204 [.str a,.str r] (.bool (sF a r)):=by
 cases A:j1 a
 ·exact rawithin_f a r ha hr A
 exact rawithin_t a r ha hr A
end Go.Proofs.YtjlnoogcggdhkaaGreatDoor.Ho
