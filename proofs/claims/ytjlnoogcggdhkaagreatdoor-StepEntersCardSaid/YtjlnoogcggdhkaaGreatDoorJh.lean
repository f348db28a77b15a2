/-
 WEAK: integers, bits and booleans read by the reference from whatever strings.
 Conditions: none.
-/
import Derived.Test.YtjlnoogcggdhkaaGreatDoorJg
set_option maxRecDepth 100000
set_option maxHeartbeats 32000000
set_option linter.all false
namespace Go.Wk
open Go.VS
def NY(c:Bs)(v:V):Prop:= ∃(b:Bs) (k er:Int),v=.aB [.str b,.int .i64 k,.int .i64 er]∧b.length≤c.length∧0≤k∧k≤7∧(b=[]→er=0→k=0)
end Go.Wk
namespace Go.Proofs.YtjlnoogcggdhkaaGreatDoor
open Go.Proofs.Tryz
open Go.VS Go.Wk
attribute [local irreducible] bj au bE aS bz DU.au
attribute [local simp] DU.cV
theorem Dc(c:Bs)(hc:c.length≤1000000000):EP prog 141 [.str c] (NY c):=by
 obtain⟨Q,hQ⟩: ∃Q,NY c=Q:=⟨_,rfl⟩
 have qe:Q (.aB [.str [],.int .i64 0,.int .i64 7]):=hQ▸⟨[],0,7,rfl,by simp,by omega,by omega,by omega⟩
 have qk: ∀k:Int,0≤k→k≤7→(c.tail=[]→k=0)→Q (.aB [.str c.tail,.int .i64 k,.int .i64 0]):=fun k h0 h1 h2=>hQ▸⟨_,k,0,rfl,by simp,h0,h1,fun h _=>h2 h⟩
 rw[hQ]
 clear hQ
 rcases c with _|⟨x,c⟩
 ·refine cR func141 rfl call141 ?_
  refine af (s':=(.str []:V)::zJ 40) rfl ?_;dsimp only[zJ]
  repeat' (first|refine ZrD ?_|refine tF ?_|((first|refine DU.Zk 1 [0,0,0,0,0,0,0,0,0,0,0,0,0,0,0,0,0,0,0,0,0,0,0,0,0,0,0,0,0,0,0] ?_|refine DU.Zk 1 [] ?_);refine Zl ?_)|(refine Yb rfl ?_ ?_<;>intro ab<;>(try simp at ab)<;>try exact dc)|refine ZoD ?_|(refine nT rfl rfl rfl (fun hb=>?_) (fun hb=>?_)<;>(fail_if_success (with_reducible cases hb;done))<;>rw[hb]<;>(try simp at hb)<;>(try contradiction)<;>(try(exfalso;omega)))|(refine DU.Cz rfl rfl rfl (fun hb=>?_) (fun hb=>?_)<;>(fail_if_success (with_reducible cases hb;done))<;>rw[hb]<;>(try simp at hb)<;>(try contradiction)<;>(try(exfalso;omega))))
  all_goals first
   |(simp;exact⟨_,qe,by simp,.pure (by simp)⟩)
   |fail
 ·have qk: ∀k:Int,0≤k→k≤7→(c=[]→k=0)→Q (.aB [.str c,.int .i64 k,.int .i64 0]):=qk
  have hx:=x.toNat_lt
  have bZ:c.length≤1000000000:=by simp at hc;omega
  rcases(by omega:7<x.toNat∨x.toNat=0∨x.toNat=1∨x.toNat=2∨x.toNat=3∨x.toNat=4∨x.toNat=5∨x.toNat=6∨x.toNat=7)with h|h|h|h|h|h|h|h|h
  all_goals(
   refine cR func141 rfl call141 ?_
   refine af (s':=(.str (x::c):V)::zJ 40) rfl ?_;dsimp only[zJ]
   repeat' (first|refine GS h ?_|refine tF ?_|((first|refine DU.Zk 1 [0,0,0,0,0,0,0,0,0,0,0,0,0,0,0,0,0,0,0,0,0,0,0,0,0,0,0,0,0,0,0] ?_|refine DU.Zk 1 [] ?_);refine Zl ?_)|(refine Yb rfl ?_ ?_<;>intro ab<;>(try simp at ab)<;>try exact dc)|refine wE h ?_|(refine nT rfl rfl rfl (fun hb=>?_) (fun hb=>?_)<;>(fail_if_success (with_reducible cases hb;done))<;>rw[hb]<;>(try simp at hb)<;>(try contradiction)<;>(try(exfalso;omega)))|(refine DU.Cz rfl rfl rfl (fun hb=>?_) (fun hb=>?_)<;>(fail_if_success (with_reducible cases hb;done))<;>rw[hb]<;>(try simp at hb)<;>(try contradiction)<;>(try(exfalso;omega))))
   all_goals first
    |(simp;exact⟨_,qe,by simp,.pure (by simp)⟩)
    |(simp;exact⟨_,qk _ (by omega) (by omega) (fun e=>by first|rfl|(subst e;simp at*;done)),by simp,.pure (by simp)⟩)
    |fail)
end Go.Proofs.YtjlnoogcggdhkaaGreatDoor
namespace Go.Wk
open Go.VS
def H4(v:V):Prop:= ∃b:Bool,v=.bool b
end Go.Wk
namespace Go.Proofs.YtjlnoogcggdhkaaGreatDoor
open Go.Proofs.Tryz
open Go.VS Go.Wk
attribute [local irreducible] bj au bE aS bz DU.au
attribute [local simp] DU.cV
end Go.Proofs.YtjlnoogcggdhkaaGreatDoor
namespace Go.Proofs.YtjlnoogcggdhkaaGreatDoor
open Go.Proofs.Tryz
open Go.VS Go.Wk
attribute [local irreducible] bj au bE aS bz DU.au
attribute [local simp] DU.cV
theorem PJ(s:Bs)(hs:s.length≤1000000000):EP prog 253 [.str s] H4:=by
 obtain⟨Q,hQ⟩: ∃Q,H4=Q:=⟨_,rfl⟩
 have qe: ∀b:Bool,Q (.bool b):=fun n=>hQ▸⟨n,rfl⟩
 rw[hQ]
 clear hQ
 refine cR func253 rfl call253 ?_
 refine af (s':=(.str s:V)::zJ 102) rfl ?_;dsimp only[zJ]
 repeat' (first|refine Zr ?_|refine Zt ?_|(refine Yb rfl ?_ ?_<;>intro ab<;>(try simp at ab)<;>try exact dc)|refine Zo ?_|fail)
 refine bm (α:=Nat) (fun x=>(zN 2 (some V.aa::some (V.int .i64 x)::zS 99 []))) (fun x=> []) (fun x=>x≤s.length) (fun x=>s.length-x) 0 (arW _) ?_ ?_
 ·dsimp only[aE,zN,zS]
  exact Yr [] (by simp[ae])
 intro i h1 KL hL
 dsimp only[aE,zN,zS]
 rcases apQ i s.length with hi|hi
 ·repeat' (first|((first|refine fc ?_|(refine fU ?_ ?_;(focus (simp[hi];done))));intro K9 h9;simp(disch:=first|exact dd|fail) [hi];refine Zm ?_;refine fe h9 ?_;clear h9 K9)|refine ay ?_|(refine cC 5 fun KL hL=>?_)|refine Y8 fun K hK=>?_|(apply hK;clear hK K)|(refine Yb rfl ?_ ?_<;>intro ab<;>(try simp at ab)<;>try exact dc)|(refine C0 ?_ ?_;(focus (simp[hi];done));refine C1 ?_)|(refine nT rfl rfl rfl (fun hb=>?_) (fun hb=>?_)<;>(fail_if_success (with_reducible cases hb;done))<;>rw[hb]<;>(try simp at hb)<;>(try contradiction)<;>(try(exfalso;omega)))|refine Zx ?_|clear hK K|(refine hL _ _ _ ?_)|(clear hK K)|(clear hL KL))
  all_goals(try(simp;exact⟨_,qe _,by simp,.pure (by simp)⟩))
  all_goals first
   |(refine hL (i+1) _ _ (by omega) (by omega) ?_;refine Le.mk [] ?_ (aZ (by simp) (by simp[ae])) (by simp);dsimp only[aE,zN,zS];(simp;done))
   |(refine hL (i+2) _ _ (by omega) (by omega) ?_;refine Le.mk [] ?_ (aZ (by simp) (by simp[ae])) (by simp);dsimp only[aE,zN,zS];(simp;done))
   |(refine hL (i+3) _ _ (by omega) (by omega) ?_;refine Le.mk [] ?_ (aZ (by simp) (by simp[ae])) (by simp);dsimp only[aE,zN,zS];(simp;done))
   |(refine hL (i+4) _ _ (by omega) (by omega) ?_;refine Le.mk [] ?_ (aZ (by simp) (by simp[ae])) (by simp);dsimp only[aE,zN,zS];(simp;done))
   |fail
 ·obtain rfl:i=s.length:=by omega
  repeat' (first|refine Zr ?_|refine Zt ?_|(refine Yb rfl ?_ ?_<;>intro ab<;>(try simp at ab)<;>try exact dc)|refine Zo ?_|fail)
  all_goals(simp;exact⟨_,qe _,by simp,.pure (by simp)⟩)
end Go.Proofs.YtjlnoogcggdhkaaGreatDoor
namespace Go.Proofs.YtjlnoogcggdhkaaGreatDoor
open Go.Proofs.Tryz
open Go.VS Go.Wk
attribute [local irreducible] bj au bE aS bz DU.au
attribute [local simp] DU.cV
theorem Mw(s:Bs)(hs:s.length≤1000000000):EP prog 250 [.str s] H4:=by
 obtain⟨Q,hQ⟩: ∃Q,H4=Q:=⟨_,rfl⟩
 have qe: ∀b:Bool,Q (.bool b):=fun n=>hQ▸⟨n,rfl⟩
 rw[hQ]
 clear hQ
 by_cases hl:s.length=8∨s.length=32
 ·obtain⟨n,hn,gp⟩: ∃n:Nat,s.length=2*n∧(n=4∨n=16):=by
   rcases hl with h|h
   ·exact⟨4,by omega,.inl rfl⟩
   ·exact⟨16,by omega,.inr rfl⟩
  have uk:(s.length:Int)/2=n:=by omega
  have hc: ¬(¬(s.length:Int)=8∧ ¬(s.length:Int)=32):=by omega
  refine cR func250 rfl call250 ?_
  refine af (s':=(.str s:V)::zJ 60) rfl ?_;dsimp only[zJ]
  repeat' (first|refine b9 uk ?_|refine ay ?_|(refine Yb rfl ?_ ?_<;>intro ab<;>(try simp at ab)<;>try exact dc)|refine aK uk ?_|(refine nT rfl rfl rfl (fun hb=>?_) (fun hb=>?_)<;>(fail_if_success (with_reducible cases hb;done))<;>rw[hb]<;>(try simp at hb)<;>(try contradiction)<;>(try(exfalso;omega))))
  all_goals(try(simp;exact⟨_,qe _,by simp,.pure (by simp)⟩))
  all_goals(
   refine bm (α:=Nat×Bool) (fun x=>(zN 2 (some V.aa::none::some (V.bool x.2)::some (V.int .i64 x.1)::zS 55 []))) (fun x=> []) (fun x=>x.1≤8*n) (fun x=>8*n-x.1) (0,false) (arW _) ?_ ?_
   ·dsimp only[aE,zN,zS]
    exact Yr [] (by simp[ae])
   rintro⟨i,z⟩ h1 KL hL
   dsimp only at h1
   dsimp only[aE,zN,zS]
   rcases apQ i (8*n)with hi|hi
   ·have BN:(i:Int)<8*n:=by omega
    have Is:0≤(i:Int)/8:=by omega
    have yN:(i:Int)/8<s.length:=by omega
    have ru:0≤(n:Int)+(i:Int)/8:=by omega
    have hq3:(n:Int)+(i:Int)/8<s.length:=by omega
    have hq4:0≤7-(i:Int)%8:=by omega
    cases z
    all_goals(
     repeat' (first|refine b9 (Zj BN (Zj Is (Zj yN (Zj ru (Zj hq3 hq4))))) ?_|refine ay ?_|(refine Yb rfl ?_ ?_<;>intro ab<;>(try simp at ab)<;>try exact dc)|refine aK (Zj BN (Zj Is (Zj yN (Zj ru (Zj hq3 hq4))))) ?_|(refine nT rfl rfl rfl (fun hb=>?_) (fun hb=>?_)<;>(fail_if_success (with_reducible cases hb;done))<;>rw[hb]<;>(try simp at hb)<;>(try contradiction)<;>(try(exfalso;omega))))
     all_goals(try(simp;exact⟨_,qe _,by simp,.pure (by simp)⟩))
     all_goals first
      |(refine hL (i+1,true) _ _ (by dsimp only;omega) (by dsimp only;omega) ?_;refine Le.mk [] ?_ (aZ (by simp) (by simp[ae])) (by simp);dsimp only[aE,zN,zS];(focus (simp;done)))
      |(refine hL (i+1,false) _ _ (by dsimp only;omega) (by dsimp only;omega) ?_;refine Le.mk [] ?_ (aZ (by simp) (by simp[ae])) (by simp);dsimp only[aE,zN,zS];(focus (simp;done)))
      |fail)
   ·obtain rfl:i=8*n:=by omega
    have BN: ¬((8*n:Nat):Int)<8*n:=by omega
    repeat' (first|refine b9 BN ?_|refine ay ?_|(refine Yb rfl ?_ ?_<;>intro ab<;>(try simp at ab)<;>try exact dc)|refine aK BN ?_|(refine nT rfl rfl rfl (fun hb=>?_) (fun hb=>?_)<;>(fail_if_success (with_reducible cases hb;done))<;>rw[hb]<;>(try simp at hb)<;>(try contradiction)<;>(try(exfalso;omega))))
    all_goals(simp;exact⟨_,qe _,by simp,.pure (by simp)⟩))
 ·have h8: ¬(s.length:Int)=8:=by omega
  have kX: ¬(s.length:Int)=32:=by omega
  refine cR func250 rfl call250 ?_
  refine af (s':=(.str s:V)::zJ 60) rfl ?_;dsimp only[zJ]
  repeat' (first|refine b9 (Zj h8 kX) ?_|refine ay ?_|(refine Yb rfl ?_ ?_<;>intro ab<;>(try simp at ab)<;>try exact dc)|refine aK (Zj h8 kX) ?_|fail)
  all_goals(simp;exact⟨_,qe _,by simp,.pure (by simp)⟩)
end Go.Proofs.YtjlnoogcggdhkaaGreatDoor
