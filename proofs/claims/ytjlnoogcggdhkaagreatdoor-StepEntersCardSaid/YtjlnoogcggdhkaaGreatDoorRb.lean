/-
 STEP: general names matched by the program; the names of a certificate.
 Conditions: none.
-/
import Derived.Test.YtjlnoogcggdhkaaGreatDoorGs
import Derived.Test.YtjlnoogcggdhkaaGreatDoorRa
set_option maxRecDepth 100000
set_option maxHeartbeats 32000000
set_option linter.all false
namespace Go.Stp
open Go.VS
def xb(a:At):List Gn:=if a.t=[49,46,50,46,56,52,48,46,49,49,51,53,52,57,46,49,46,57,46,49]then[⟨1,a.v,[]⟩]else[]
end Go.Stp
namespace Go.Proofs.YtjlnoogcggdhkaaGreatDoor
open Go.Proofs.Tryz
open Go.VS Go.Stp
attribute [local irreducible] bj au bE aS bz
end Go.Proofs.YtjlnoogcggdhkaaGreatDoor
namespace Go.Stp
open Go.VS
theorem Qs{l:List V}{n:Nat}{a b c:V}(h:(l.drop n).take 3=[a,b,c]): ∃h:n+2<l.length,l[n]=a∧l[n+1]=b∧l[n+2]=c:=by
 have h0: ∀i,i<3→l[n+i]?=[a,b,c][i]?:=fun i hi=>by rw[←h,aqc,if_pos hi,aqb]
 obtain⟨q2,e2⟩:=apN.1 (h0 2 (by omega))
 obtain⟨q1,e1⟩:=apN.1 (h0 1 (by omega))
 obtain⟨q0,e0⟩:=apN.1 (h0 0 (by omega))
 exact⟨q2,e0,e1,e2⟩
end Go.Stp
namespace Go.Proofs.YtjlnoogcggdhkaaGreatDoor
open Go.Proofs.Tryz
open Go.VS Go.Stp
attribute [local irreducible] bj au bE aS bz
end Go.Proofs.YtjlnoogcggdhkaaGreatDoor
namespace Go.Proofs.YtjlnoogcggdhkaaGreatDoor
open Go.Proofs.Tryz
open Go.VS Go.Stp
attribute [local irreducible] bj au bE aS bz
theorem Qt(g b:Gn)(hg:WE g)(hb:WE b):ao prog 152 [.agg g.c,.agg b.c] (.bool (sE g b)):=by
 have hn:=yV g.name b.name hg.1 hb.1
 have ht:=hg.2
 have mL:=hb.2
 have h1:=Ho.IB g.text b.text (by omega) (by omega)
 have h2:=Ho.LN g.text b.text (by omega) (by omega)
 have h7:=Ho.IC g.text b.text (by omega) (by omega)
 rw[show g.c=[.int .i64 g.kind,.str g.text,aW g.name]from rfl,show b.c=[.int .i64 b.kind,.str b.text,aW b.name]from rfl]
 refine ah func152 rfl call152 ?_ ?_
 rotate_left 1
 refine af (s':=(.agg [.int .i64 g.kind,.str g.text,aW g.name]:V)::(.agg [.int .i64 b.kind,.str b.text,aW b.name]:V)::zJ 39) rfl ?_;dsimp only[zJ]
 unfold sE
 by_cases h0:g.kind=b.kind
 ·rw[if_pos h0]
  by_cases k1:g.kind=1
  ·rw[if_pos k1]
   have sG:b.kind=1:=by omega
   have e:Gh 1=0:=rfl
   repeat' (first|(refine Zu ?_;intro K9 h9;simp(disch:=first|exact dd|fail) [k1,sG,e];refine Zm ?_;((first|refine Ap (sU _) ?_|refine Ap h1 ?_|skip)<;>(refine Zf h9 ?_;clear h9 K9)))|refine Zt ?_|(refine Yb rfl ?_ ?_<;>intro ab<;>(try simp at ab)<;>try exact dc))
   exact .pure .bool
  by_cases k2:g.kind=2
  ·rw[if_neg k1,if_pos k2]
   have sG:b.kind=2:=by omega
   have e:Gh 2=1:=rfl
   repeat' (first|(refine Zu ?_;intro K9 h9;simp(disch:=first|exact dd|fail) [k2,sG,e];refine Zm ?_;((first|refine Ap (sU _) ?_|refine Ap h2 ?_|skip)<;>(refine Zf h9 ?_;clear h9 K9)))|refine Zt ?_|(refine Yb rfl ?_ ?_<;>intro ab<;>(try simp at ab)<;>try exact dc))
   exact .pure .bool
  by_cases k4:g.kind=4
  ·rw[if_neg k1,if_neg k2,if_pos k4]
   have sG:b.kind=4:=by omega
   have e:Gh 4=2:=rfl
   repeat' (first|(refine Zu ?_;intro K9 h9;simp(disch:=first|exact dd|fail) [k4,sG,e];refine Zm ?_;((first|refine Ap (sU _) ?_|refine Ap hn ?_|skip)<;>(refine Zf h9 ?_;clear h9 K9)))|refine Zt ?_|(refine Yb rfl ?_ ?_<;>intro ab<;>(try simp at ab)<;>try exact dc))
   exact .pure .bool
  by_cases k7:g.kind=7
  ·rw[if_neg k1,if_neg k2,if_neg k4,if_pos k7]
   have sG:b.kind=7:=by omega
   have e:Gh 7=3:=rfl
   repeat' (first|(refine Zu ?_;intro K9 h9;simp(disch:=first|exact dd|fail) [k7,sG,e];refine Zm ?_;((first|refine Ap (sU _) ?_|refine Ap h7 ?_|skip)<;>(refine Zf h9 ?_;clear h9 K9)))|refine Zt ?_|(refine Yb rfl ?_ ?_<;>intro ab<;>(try simp at ab)<;>try exact dc))
   exact .pure .bool
  ·rw[if_neg k1,if_neg k2,if_neg k4,if_neg k7]
   have e:Gh b.kind=4:=by rw[←h0];unfold Gh;rw[if_neg k1,if_neg k2,if_neg k4,if_neg k7]
   repeat' (first|(refine Zu ?_;intro K9 h9;simp(disch:=first|exact dd|fail) [h0,e];refine Zm ?_;((first|refine Ap (sU _) ?_|skip)<;>(refine Zf h9 ?_;clear h9 K9)))|refine Zt ?_|(refine Yb rfl ?_ ?_<;>intro ab<;>(try simp at ab)<;>try exact dc))
   exact .pure .bool
 ·rw[if_neg h0]
  repeat' (first|refine Z0 h0 ?_|refine Zt ?_|(refine Yb rfl ?_ ?_<;>intro ab<;>(try simp at ab)<;>try exact dc))
  exact .pure .bool
 exact .bool
theorem Gi(g:Gn)(l:List Gn)(hg:WE g)(h:WG l):ao prog 101 [.agg g.c,aX l] (.bool (jg g l)):=by
 rw[show g.c=[.int .i64 g.kind,.str g.text,aW g.name]from rfl]
 unfold aX
 refine ah func101 rfl call101 ?_ ?_
 rotate_left 1
 refine af (s':=(.agg [.int .i64 g.kind,.str g.text,aW g.name]:V)::(.sl l.length (l.flatMap Gn.c):V)::zJ 15) rfl ?_;dsimp only[zJ]
 have eu:=sa l
 have cv:=n9 l
 have hl:=h.1
 have hw:=h.2
 generalize l.flatMap Gn.c=cells at*
 repeat' (first|refine Zq ?_|refine Zt ?_|(refine Yb rfl ?_ ?_<;>intro ab<;>(try simp at ab)<;>try exact dc))
 ·refine bm (α:=Nat) (fun i=>(zS 2 (zN 2 (some V.aa::none::some V.aa::zN 2 (some (V.int .i64 i)::zS 7 []))))) (fun i=> [.live [.int .i64 g.kind,.str g.text,aW g.name]]) (fun i=>i≤l.length∧ ∀j (h:j<l.length),j<i→sE g l[j]=false) (fun i=>l.length-i) 0 ⟨by omega,fun j _ h=>by omega⟩ ?_ ?_
  ·exact Yv [some 0]
  rintro i ⟨hi,hall⟩ KL hL
  dsimp only[aE,zN,zS]
  rcases apQ i l.length with hi|hi
  ·have aP:sE g l[i]=false→i+1≤l.length∧ ∀j (h:j<l.length),j<i+1→sE g l[j]=false:=fun hx=>⟨by omega,fun j hj h=>by
    rcases apQ j i with h3|h3
    ·exact hall j hj h3
    ·obtain rfl:j=i:=by omega
     exact hx⟩
   have mf:sE g l[i]=true→jg g l=true:=any_true hi
   have hc:=cv i hi
   have he:=Qt g l[i] hg (hw _ (apY _))
   generalize l[i]=x at*
   rw[show x.c=[.int .i64 x.kind,.str x.text,aW x.name]from rfl]at hc he
   rw[show g.c=[.int .i64 g.kind,.str g.text,aW g.name]from rfl]at he
   cases hb:sE g x<;>rw[hb]at he
   ·repeat' (first|refine Z1 hc he ?_|refine Zt ?_|(refine Yb rfl ?_ ?_<;>intro ab<;>(try simp at ab)<;>try exact dc))
    refine hL (i+1) _ _ (aP hb) (by omega) ?_
    exact Yv [some 0]
   ·repeat' (first|refine Z1 hc he ?_|refine Zt ?_|(refine Yb rfl ?_ ?_<;>intro ab<;>(try simp at ab)<;>try exact dc))
    rw[mf hb]
    exact .pure .bool
  ·repeat' (first|refine Zq ?_|refine Zt ?_|(refine Yb rfl ?_ ?_<;>intro ab<;>(try simp at ab)<;>try exact dc))
   rw[show jg g l=false from any_false fun j hj=>hall j hj (by omega)]
   exact .pure .bool
 ·exact .bool
theorem Qv(k:Int)(l:List Gn)(h:l.length≤131072):ao prog 153 [aX l,.int .i64 k] (.bool (u9 k l)):=by
 unfold aX
 refine ah func153 rfl call153 ?_ ?_
 rotate_left 1
 refine af (s':=(.sl l.length (l.flatMap Gn.c):V)::(.int .i64 k:V)::zJ 16) rfl ?_;dsimp only[zJ]
 have eu:=sa l
 have cv:=n9 l
 generalize l.flatMap Gn.c=cells at*
 repeat' (first|refine Zq ?_|refine Zt ?_|(refine Yb rfl ?_ ?_<;>intro ab<;>(try simp at ab)<;>try exact dc))
 ·refine bm (α:=Nat) (fun i=>(some V.aa::zN 3 (some V.aa::none::some V.aa::zN 2 (some (V.int .i64 i)::zS 8 [])))) (fun i=> []) (fun i=>i≤l.length∧ ∀j (h:j<l.length),j<i→decide (l[j].kind=k)=false) (fun i=>l.length-i) 0 ⟨by omega,fun j _ h=>by omega⟩ ?_ ?_
  ·dsimp only[aE,zN,zS]
   exact Yr [] (by simp[ae])
  rintro i ⟨hi,hall⟩ KL hL
  dsimp only[aE,zN,zS]
  rcases apQ i l.length with hi|hi
  ·have aP:decide (l[i].kind=k)=false→i+1≤l.length∧ ∀j (h:j<l.length),j<i+1→decide (l[j].kind=k)=false:=fun hx=>⟨by omega,fun j hj h=>by
    rcases apQ j i with h3|h3
    ·exact hall j hj h3
    ·obtain rfl:j=i:=by omega
     exact hx⟩
   have mf:decide (l[i].kind=k)=true→u9 k l=true:=any_true (p:=fun b:Gn=>decide (b.kind=k)) hi
   have hc:=cv i hi
   generalize l[i]=x at*
   rw[show x.c=[.int .i64 x.kind,.str x.text,aW x.name]from rfl]at hc
   by_cases hb:x.kind=k
   ·repeat' (first|refine Z0 (Zj hc hb) ?_|refine Zt ?_|(refine Yb rfl ?_ ?_<;>intro ab<;>(try simp at ab)<;>try exact dc))
    rw[mf (by simpa using hb)]
    exact .pure .bool
   ·repeat' (first|refine Z0 (Zj hc hb) ?_|refine Zt ?_|(refine Yb rfl ?_ ?_<;>intro ab<;>(try simp at ab)<;>try exact dc))
    refine hL (i+1) _ _ (aP (by simpa using hb)) (by omega) ?_
    exact Yr [] (by simp[ae])
  ·repeat' (first|refine Zq ?_|refine Zt ?_|(refine Yb rfl ?_ ?_<;>intro ab<;>(try simp at ab)<;>try exact dc))
   rw[show u9 k l=false from any_false (p:=fun b:Gn=>decide (b.kind=k)) fun j hj=>hall j hj (by omega)]
   exact .pure .bool
 ·exact .bool
theorem MQ{α:Type}(p q:α→Bool): ∀l:List α,(l.all fun x=>p x&&q x)=(l.all p&&l.all q)
 |[]=>rfl
 |a::l=>by simp only[List.all_cons,MQ p q l];cases p a<;>cases q a<;>simp
def vh(g:Gn)(s:Sb):Bool:=!(u9 g.kind s.p&&!jg g s.p)
theorem LO(l:List Sb)(g:Gn):cn l g=((l.all fun s=>!jg g s.x)&&l.all (vh g)):=by
 unfold cn
 rw[←MQ]
 rfl
theorem ID(l:List Sb)(g:Gn)(hg:WE g)(h:Bn l):ao prog 102 [.agg [cU l],.agg g.c] (.bool (l.all (vh g))):=by
 rw[show g.c=[.int .i64 g.kind,.str g.text,aW g.name]from rfl]
 unfold cU
 refine ah func102 rfl call102 ?_ ?_
 rotate_left 1
 refine af (s':=(.agg [.sl l.length (l.flatMap Sb.c)]:V)::(.agg [.int .i64 g.kind,.str g.text,aW g.name]:V)::zJ 25) rfl ?_;dsimp only[zJ]
 have eu:=Aw l
 have cv:=vJ l
 have hl:=h.1
 have hw:=h.2
 generalize l.flatMap Sb.c=cells at*
 repeat' (first|refine Zr ?_|refine Zt ?_|(refine Yb rfl ?_ ?_<;>intro ab<;>(try simp at ab)<;>try exact dc)|refine Zo ?_|fail)
 ·refine bm (α:=Nat) (fun i=>(zS 3 (none::some V.aa::none::zS 2 (zN 2 (some (V.int .i64 i)::zS 16 []))))) (fun i=> [.live [.sl l.length cells],.live [.int .i64 g.kind,.str g.text,aW g.name]]) (fun i=>i≤l.length∧ ∀j (h:j<l.length),j<i→vh g l[j]=true) (fun i=>l.length-i) 0 ⟨by omega,fun j _ h=>by omega⟩ ?_ ?_
  ·exact Yv [some 0,some 1]
  rintro i ⟨hi,hall⟩ KL hL
  dsimp only[aE,zN,zS]
  rcases apQ i l.length with hi|hi
  ·have aP:vh g l[i]=true→i+1≤l.length∧ ∀j (h:j<l.length),j<i+1→vh g l[j]=true:=fun hx=>⟨by omega,fun j hj h=>by
    rcases apQ j i with h3|h3
    ·exact hall j hj h3
    ·obtain rfl:j=i:=by omega
     exact hx⟩
   have bV:vh g l[i]=false→l.all (vh g)=false:=il hi
   have hc:=cv i hi
   have F0:=hw _ (apY hi)
   generalize l[i]=x at*
   have e2:=Gi g x.p hg F0.1
   have e3:=Qv g.kind x.p F0.1.1
   rw[show g.c=[.int .i64 g.kind,.str g.text,aW g.name]from rfl]at e2
   rw[show x.c=[aX x.p,aX x.x]from rfl]at hc
   unfold vh at aP bV
   cases XF:u9 g.kind x.p<;>rw[XF]at e3 aP bV
   ·repeat' (first|refine bS hc (Zj e2 e3) ?_|refine ay ?_|(refine Yb rfl ?_ ?_<;>intro ab<;>(try simp at ab)<;>try exact dc)|refine aK hc ?_|fail)
    refine hL (i+1) _ _ (aP rfl) (by omega) ?_
    exact Yv [some 0,some 1]
   ·cases hp:jg g x.p<;>rw[hp]at e2 aP bV
    ·repeat' (first|refine bS hc (Zj e2 e3) ?_|refine ay ?_|(refine Yb rfl ?_ ?_<;>intro ab<;>(try simp at ab)<;>try exact dc)|refine aK hc ?_|fail)
     rw[show l.all (vh g)=false from bV rfl]
     exact .pure .bool
    ·repeat' (first|refine bS hc (Zj e2 e3) ?_|refine ay ?_|(refine Yb rfl ?_ ?_<;>intro ab<;>(try simp at ab)<;>try exact dc)|refine aK hc ?_|fail)
     refine hL (i+1) _ _ (aP rfl) (by omega) ?_
     exact Yv [some 0,some 1]
  ·repeat' (first|refine Zr ?_|refine Zt ?_|(refine Yb rfl ?_ ?_<;>intro ab<;>(try simp at ab)<;>try exact dc)|refine Zo ?_|fail)
   rw[show l.all (vh g)=true from jt fun j hj=>hall j hj (by omega)]
   exact .pure .bool
 ·exact .bool
theorem LP(l:List Sb)(g:Gn)(hg:WE g)(h:Bn l):ao prog 54 [.agg [cU l],.agg g.c] (.bool (cn l g)):=by
 have ha:=ID l g hg h
 rw[LO]
 rw[show g.c=[.int .i64 g.kind,.str g.text,aW g.name]from rfl]at*
 unfold cU at*
 refine ah func54 rfl call54 ?_ ?_
 rotate_left 1
 refine af (s':=(.agg [.sl l.length (l.flatMap Sb.c)]:V)::(.agg [.int .i64 g.kind,.str g.text,aW g.name]:V)::zJ 20) rfl ?_;dsimp only[zJ]
 have eu:=Aw l
 have cv:=vJ l
 have hl:=h.1
 have hw:=h.2
 generalize l.flatMap Sb.c=cells at*
 repeat' (first|refine Zq ?_|refine Zt ?_|(refine Yb rfl ?_ ?_<;>intro ab<;>(try simp at ab)<;>try exact dc))
 ·refine bm (α:=Nat) (fun i=>(zS 2 (zN 2 (some V.aa::none::zS 2 (zN 2 (some (V.int .i64 i)::zS 11 [])))))) (fun i=> [.live [.sl l.length cells],.live [.int .i64 g.kind,.str g.text,aW g.name]]) (fun i=>i≤l.length∧ ∀j (h:j<l.length),j<i→(!jg g l[j].x)=true) (fun i=>l.length-i) 0 ⟨by omega,fun j _ h=>by omega⟩ ?_ ?_
  ·exact Yv [some 0,some 1]
  rintro i ⟨hi,hall⟩ KL hL
  dsimp only[aE,zN,zS]
  rcases apQ i l.length with hi|hi
  ·have aP:(!jg g l[i].x)=true→i+1≤l.length∧ ∀j (h:j<l.length),j<i+1→(!jg g l[j].x)=true:=fun hx=>⟨by omega,fun j hj h=>by
    rcases apQ j i with h3|h3
    ·exact hall j hj h3
    ·obtain rfl:j=i:=by omega
     exact hx⟩
   have bV:(!jg g l[i].x)=false→(l.all fun s=>!jg g s.x)=false:=il (p:=fun s:Sb=>!jg g s.x) hi
   have hc:=cv i hi
   have F0:=hw _ (apY hi)
   generalize l[i]=x at*
   have e1:=Gi g x.x hg F0.2
   rw[show g.c=[.int .i64 g.kind,.str g.text,aW g.name]from rfl]at e1
   rw[show x.c=[aX x.p,aX x.x]from rfl]at hc
   cases hx:jg g x.x<;>rw[hx]at e1 aP bV
   ·repeat' (first|refine Z1U hc e1 ?_|refine ay ?_|(refine Yb rfl ?_ ?_<;>intro ab<;>(try simp at ab)<;>try exact dc))
    refine hL (i+1) _ _ (aP rfl) (by omega) ?_
    exact Yv [some 0,some 1]
   ·repeat' (first|refine Z1U hc e1 ?_|refine ay ?_|(refine Yb rfl ?_ ?_<;>intro ab<;>(try simp at ab)<;>try exact dc))
    rw[bV rfl]
    exact .pure .bool
  ·repeat' (first|refine Z2 ha ?_|refine Zt ?_|(refine Yb rfl ?_ ?_<;>intro ab<;>(try simp at ab)<;>try exact dc))
   rw[show(l.all fun s=>!jg g s.x)=true from jt (p:=fun s:Sb=>!jg g s.x) fun j hj=>hall j hj (by omega)]
   exact .pure .bool
 ·exact .bool
end Go.Proofs.YtjlnoogcggdhkaaGreatDoor
namespace Go.Stp
open Go.VS Go.Proofs.YtjlnoogcggdhkaaGreatDoor
def oY(n:Nm):List Gn:=if n.length=0 then[]else[⟨4,[],n⟩]
def fE(l:List Sb)(a:At):Bool:=(xb a).all (cn l)
def pP(l:List Sb)(n:Nm)(gs:List Gn):Bool:=(oY n).all (cn l)&&(n.all fun r=>r.all (fE l))&&gs.all (cn l)
end Go.Stp
namespace Go.Proofs.YtjlnoogcggdhkaaGreatDoor
open Go.Proofs.Tryz
open Go.VS Go.Stp
attribute [local irreducible] bj au bE aS bz
theorem Hv(l:List Sb)(n:Nm)(gs:List Gn)(hl:Bn l)(hn:WN n)(hg:WG gs):ao prog 29 [.agg [cU l],.agg [aW n],aX gs] (.bool (pP l n gs)):=by
 have hp: ∀g:Gn,WE g→ao prog 54 [.agg [cU l],.agg [.int .i64 g.kind,.str g.text,aW g.name]] (.bool (cn l g)):=fun g h=>LP l g h hl
 have hq: ∀v:List UInt8,v.length≤131072→ao prog 54 [.agg [cU l],.agg [.int .i64 1,.str v,.aj]] (.bool (cn l ⟨1,v,[]⟩)):=fun v h=>kv (hp ⟨1,v,[]⟩ ⟨⟨by simp,fun r hr=>by simp at hr⟩,h⟩) rfl
 have hs:=hp ⟨4,[],n⟩ ⟨hn,by simp⟩
 have hgn:=sa gs
 have Qw:=n9 gs
 have hg1:=hg.1
 have lL:=hg.2
 have IE:=hn.1
 have uk:=hn.2
 unfold pP
 rw[show aW n=.sl n.length (n.map bn)from rfl,show aX gs=.sl gs.length (gs.flatMap Gn.c)from rfl]at*
 (try dsimp only at hs)
 (try rw[show aW n=.sl n.length (n.map bn)from rfl]at hs)
 rw[show cU l=.sl l.length (l.flatMap Sb.c)from rfl]at hp hq hs⊢
 refine ah func29 rfl call29 ?_ ?_
 rotate_left 1
 refine af (s':=(.agg [.sl l.length (l.flatMap Sb.c)]:V)::(.agg [.sl n.length (n.map bn)]:V)::(.sl gs.length (gs.flatMap Gn.c):V)::zJ 58) rfl ?_;dsimp only[zJ]
 generalize gs.flatMap Gn.c=cells at*
 generalize l.flatMap Sb.c=X at*
 ·refine b8 fun K hK=>?_
  repeat' (first|refine Zr ?_|refine Zt ?_|(refine Yb rfl ?_ ?_<;>intro ab<;>(try simp at ab)<;>try exact dc)|refine Zo ?_|refine Zx ?_|fail)
  refine hK _ _ ?_;clear hK K
  refine Cp fun K1 Dl yW=>?_
  have lu:(oY n).all (cn l)=true→K1 ((V.aa::V.aa::(V.sl gs.length cells)::(V.ref 0 0)::(V.ref 1 0)::V.aa::V.aa::V.aa::V.aa::V.aa::V.aa::V.aa::V.aa::V.aa::V.aa::V.aa::V.aa::V.aa::V.aa::V.aa::V.aa::V.aa::V.aa::V.aa::V.aa::V.aa::V.aa::V.aa::V.aa::V.aa::V.aa::V.aa::V.aa::V.aa::V.aa::V.aa::V.aa::V.aa::V.aa::V.aa::V.aa::V.aa::V.aa::V.aa::V.aa::V.aa::V.aa::V.aa::V.aa::V.aa::V.aa::V.aa::V.aa::V.aa::V.aa::V.aa::V.aa::V.aa::V.aa::V.aa::V.aa::[])) [.live [.sl l.length X],.live [.sl n.length (n.map bn)]]:=by
   intro IF
   refine Dl _ _ ?_
   rw[IF]
   clear Dl yW K1 hs
   repeat' (first|refine Zr ?_|refine Zt ?_|refine Y8 fun K hK=>?_|(apply hK;clear hK K)|(refine Yb rfl ?_ ?_<;>intro ab<;>(try simp at ab)<;>try exact dc)|refine Zo ?_|refine Zx ?_|clear hK K)
   refine bm (α:=Nat) (fun i=>(zS 2 (zN 2 (some V.aa::none::some V.aa::none::some V.aa::none::some V.aa::none::zS 13 (zN 2 (some (V.int .i64 i)::zS 33 [])))))) (fun i=> [.live [.sl l.length X],.live [.sl n.length (n.map bn)]]) (fun i=>i≤n.length∧ ∀j (h:j<n.length),j<i→n[j].all (fE l)=true) (fun i=>n.length-i) 0 ⟨by omega,fun j _ h=>by omega⟩ ?_ ?_
   ·exact Yv [some 0,some 1]
   rintro i ⟨hi,hall⟩ KL hL
   dsimp only[aE,zN,zS]
   rcases apQ i n.length with hi|hi
   ·have lD:=uk _ (apY hi)
    have aP:n[i].all (fE l)=true→i+1≤n.length∧ ∀j (h:j<n.length),j<i+1→n[j].all (fE l)=true:=fun hx=>⟨by omega,fun j hj h=>by
     rcases apQ j i with h3|h3
     ·exact hall j hj h3
     ·obtain rfl:j=i:=by omega
      exact hx⟩
    have bV:n[i].all (fE l)=false→(n.all fun r=>r.all (fE l))=false:=il (p:=fun r:List At=>r.all (fE l)) hi
    obtain⟨r,hr⟩: ∃r,n[i]=r:=⟨_,rfl⟩
    rw[hr]at lD aP bV
    clear hall Qw lL uk hp
    repeat' (first|((first|refine Zu ?_|(refine Zv ?_ ?_;(focus (simp[hr,bn];done))));intro K9 h9;simp(disch:=first|exact dd|fail) [hr,bn];refine Zm ?_;refine Zf h9 ?_;clear h9 K9)|refine Zt ?_|refine Y8 fun K hK=>?_|(apply hK;clear hK K)|(refine Yb rfl ?_ ?_<;>intro ab<;>(try simp at ab)<;>try exact dc)|(refine Zn ?_ ?_;(focus (simp[hr,bn];done));refine Zs ?_)|refine Zx ?_|clear hK K)
    refine bm (α:=Nat) (fun k=>(zS 2 (zN 2 (some V.aa::none::some V.aa::none::some V.aa::none::some V.aa::none::zS 13 (zN 3 (zS 3 (zN 2 (some (V.int .i64 k)::zS 27 [])))))))) (fun k=> [.live [.sl l.length X],.live [.sl n.length (n.map bn)]]) (fun k=>k≤r.length∧ ∀j (h:j<r.length),j<k→fE l r[j]=true) (fun k=>r.length-k) 0 ⟨by omega,fun j _ h=>by omega⟩ ?_ ?_
    ·exact Yv [some 0,some 1]
    rintro k ⟨hk,lp⟩ KM hM
    dsimp only[aE,zN,zS]
    have ie:=la r
    rcases apQ k r.length with hk|hk
    ·clear hL aP
     have bA:=qA r k hk
     have hw:=lD.2 _ (apY hk)
     have lG:fE l r[k]=true→k+1≤r.length∧ ∀j (h:j<r.length),j<k+1→fE l r[j]=true:=fun hx=>⟨by omega,fun j hj h=>by
      rcases apQ j k with h3|h3
      ·exact lp j hj h3
      ·obtain rfl:j=k:=by omega
       exact hx⟩
     have jm:fE l r[k]=false→r.all (fE l)=false:=il hk
     clear lp
     obtain⟨a,ha⟩: ∃a,r[k]=a:=⟨_,rfl⟩
     rw[ha]at bA hw lG jm
     rw[show a.c=[.str a.t,.int .i64 a.k,.str a.v]from rfl]at bA
     obtain⟨Yy,kD,afz,kE⟩:=Qs bA
     by_cases hm:a.t=[49,46,50,46,56,52,48,46,49,49,51,53,52,57,46,49,46,57,46,49]
     ·have dC:=hq a.v hw
      cases hb:cn l ⟨1,a.v,[]⟩<;>rw[hb]at dC
      ·have e1:fE l a=false:=by unfold fE xb;rw[if_pos hm];simp[hb]
       rw[bV (jm e1)]
       repeat' (first|((first|refine fc ?_|(refine fU ?_ ?_;(focus (simp[hr,bn,bA,kD,kE,ie,hm];done))));intro K9 h9;simp(disch:=first|exact dd|fail) [hr,bn,bA,kD,kE,ie,hm];refine Zm ?_;((first|refine Ap dC ?_|skip)<;>(refine fe h9 ?_;clear h9 K9)))|refine ay ?_|refine Y8 fun K hK=>?_|(apply hK;clear hK K)|(refine Yb rfl ?_ ?_<;>intro ab<;>(try simp at ab)<;>try exact dc)|(refine C0 ?_ ?_;(focus (simp[hr,bn,bA,kD,kE,ie,hm];done));refine C1 ?_)|refine Zx ?_|clear hK K)
       (try simp)
       exact .pure .bool
      ·have e1:fE l a=true:=by unfold fE xb;rw[if_pos hm];simp[hb]
       repeat' (first|((first|refine fc ?_|(refine fU ?_ ?_;(focus (simp[hr,bn,bA,kD,kE,ie,hm];done))));intro K9 h9;simp(disch:=first|exact dd|fail) [hr,bn,bA,kD,kE,ie,hm];refine Zm ?_;((first|refine Ap dC ?_|skip)<;>(refine fe h9 ?_;clear h9 K9)))|refine ay ?_|refine Y8 fun K hK=>?_|(apply hK;clear hK K)|(refine Yb rfl ?_ ?_<;>intro ab<;>(try simp at ab)<;>try exact dc)|(refine C0 ?_ ?_;(focus (simp[hr,bn,bA,kD,kE,ie,hm];done));refine C1 ?_)|refine Zx ?_|clear hK K)
       refine hM (k+1) _ _ (lG e1) (by omega) ?_
       exact Yv [some 0,some 1]
     ·have e1:fE l a=true:=by unfold fE xb;rw[if_neg hm];rfl
      repeat' (first|((first|refine fc ?_|(refine fU ?_ ?_;(focus (simp[hr,bn,bA,kD,kE,ie,hm];done))));intro K9 h9;simp(disch:=first|exact dd|fail) [hr,bn,bA,kD,kE,ie,hm];refine Zm ?_;refine fe h9 ?_;clear h9 K9)|refine ay ?_|refine Y8 fun K hK=>?_|(apply hK;clear hK K)|(refine Yb rfl ?_ ?_<;>intro ab<;>(try simp at ab)<;>try exact dc)|(refine C0 ?_ ?_;(focus (simp[hr,bn,bA,kD,kE,ie,hm];done));refine C1 ?_)|refine Zx ?_|clear hK K)
      refine hM (k+1) _ _ (lG e1) (by omega) ?_
      exact Yv [some 0,some 1]
    ·clear hM
     have e2:r.all (fE l)=true:=jt fun j hj=>lp j hj (by omega)
     repeat' (first|((first|refine Zu ?_|(refine Zv ?_ ?_;(focus (simp[hr,bn];done))));intro K9 h9;simp(disch:=first|exact dd|fail) [hr,bn];refine Zm ?_;refine Zf h9 ?_;clear h9 K9)|refine Zt ?_|refine Y8 fun K hK=>?_|(apply hK;clear hK K)|(refine Yb rfl ?_ ?_<;>intro ab<;>(try simp at ab)<;>try exact dc)|(refine Zn ?_ ?_;(focus (simp[hr,bn];done));refine Zs ?_)|refine Zx ?_|clear hK K)
     refine hL (i+1) _ _ (aP e2) (by omega) ?_
     exact Yv [some 0,some 1]
   ·clear hL hq uk
    have MR:(n.all fun r=>r.all (fE l))=true:=jt (p:=fun r:List At=>r.all (fE l)) fun j hj=>hall j hj (by omega)
    clear hall
    repeat' (first|refine Zr ?_|refine Zt ?_|refine Y8 fun K hK=>?_|(apply hK;clear hK K)|(refine Yb rfl ?_ ?_<;>intro ab<;>(try simp at ab)<;>try exact dc)|refine Zo ?_|refine Zx ?_|clear hK K)
    refine bm (α:=Nat) (fun i=>(zS 3 (none::some V.aa::none::some V.aa::none::some V.aa::none::some V.aa::none::zS 38 (zN 2 (some (V.int .i64 i)::zS 8 []))))) (fun i=> [.live [.sl l.length X],.live [.sl n.length (n.map bn)]]) (fun i=>i≤gs.length∧ ∀j (h:j<gs.length),j<i→cn l gs[j]=true) (fun i=>gs.length-i) 0 ⟨by omega,fun j _ h=>by omega⟩ ?_ ?_
    ·exact Yv [some 0,some 1]
    rintro j ⟨hj,hall⟩ KL hL
    dsimp only[aE,zN,zS]
    rcases apQ j gs.length with hj|hj
    ·have aP:cn l gs[j]=true→j+1≤gs.length∧ ∀m (h:m<gs.length),m<j+1→cn l gs[m]=true:=fun hx=>⟨by omega,fun m hm h=>by
      rcases apQ m j with h3|h3
      ·exact hall m hm h3
      ·obtain rfl:m=j:=by omega
       exact hx⟩
     have bV:cn l gs[j]=false→gs.all (cn l)=false:=il hj
     have hc:=Qw j hj
     have dC:=hp gs[j] (lL _ (apY _))
     generalize gs[j]=x at*
     rw[show x.c=[.int .i64 x.kind,.str x.text,aW x.name]from rfl]at hc
     cases hb:cn l x<;>rw[hb]at dC
     ·rw[bV hb]
      repeat' (first|refine Z4 hc dC ?_|refine Zt ?_|refine Y8 fun K hK=>?_|(apply hK;clear hK K)|(refine Yb rfl ?_ ?_<;>intro ab<;>(try simp at ab)<;>try exact dc)|refine Z6 hc ?_|refine Zx ?_|clear hK K)
      (try simp)
      exact .pure .bool
     ·repeat' (first|refine Z4 hc dC ?_|refine Zt ?_|refine Y8 fun K hK=>?_|(apply hK;clear hK K)|(refine Yb rfl ?_ ?_<;>intro ab<;>(try simp at ab)<;>try exact dc)|refine Z6 hc ?_|refine Zx ?_|clear hK K)
      refine hL (j+1) _ _ (aP hb) (by omega) ?_
      exact Yv [some 0,some 1]
    ·have pL:gs.all (cn l)=true:=jt fun m hm=>hall m hm (by omega)
     repeat' (first|refine Zr ?_|refine Zt ?_|refine Y8 fun K hK=>?_|(apply hK;clear hK K)|(refine Yb rfl ?_ ?_<;>intro ab<;>(try simp at ab)<;>try exact dc)|refine Zo ?_|refine Zx ?_|clear hK K)
     rw[MR,pL]
     (try simp)
     exact .pure .bool
  by_cases h0:n.length=0
  ·have IF:(oY n).all (cn l)=true:=by unfold oY;rw[if_pos h0];rfl
   have m1:=lu IF
   clear lu
   have hz:(0<n.length)=False:=eq_false (by omega)
   repeat' (first|refine b9 hz ?_|refine ay ?_|refine Y8 fun K hK=>?_|(apply hK;clear hK K)|(refine Yb rfl ?_ ?_<;>intro ab<;>(try simp at ab)<;>try exact dc)|refine aK hz ?_|refine Zx ?_|clear hK K)
   refine yW.le _ _ _ _ ?_ m1
   exact Yv [some 0,some 1]
  ·have np:(oY n).all (cn l)=cn l ⟨4,[],n⟩:=by unfold oY;rw[if_neg h0];simp
   have hz:(0<n.length)=True:=eq_true (by omega)
   cases hb:cn l ⟨4,[],n⟩<;>rw[hb]at hs np
   ·rw[np]
    clear lu
    repeat' (first|refine bS hz hs ?_|refine ay ?_|refine Y8 fun K hK=>?_|(apply hK;clear hK K)|(refine Yb rfl ?_ ?_<;>intro ab<;>(try simp at ab)<;>try exact dc)|refine aK hz ?_|refine Zx ?_|clear hK K)
    (try simp)
    exact .pure .bool
   ·have m1:=lu np
    clear lu
    repeat' (first|refine bS hz hs ?_|refine ay ?_|refine Y8 fun K hK=>?_|(apply hK;clear hK K)|(refine Yb rfl ?_ ?_<;>intro ab<;>(try simp at ab)<;>try exact dc)|refine aK hz ?_|refine Zx ?_|clear hK K)
    refine yW.le _ _ _ _ ?_ m1
    exact Yv [some 0,some 1]
 ·exact .bool
theorem Hu(l:List Sb)(n:Nm)(gs:List Gn)(hl:Bn l)(hn:WN n)(hg:WG gs):ao prog 33 [.agg [cU l],.agg [aW n],aX gs] (.bool (pP l n gs)):=by
 have hp: ∀g:Gn,WE g→ao prog 62 [.agg [cU l],.agg [.int .i64 g.kind,.str g.text,aW g.name]] (.bool (cn l g)):=fun g h=>Ln l g h hl
 have hq: ∀v:List UInt8,v.length≤131072→ao prog 62 [.agg [cU l],.agg [.int .i64 1,.str v,.aj]] (.bool (cn l ⟨1,v,[]⟩)):=fun v h=>kv (hp ⟨1,v,[]⟩ ⟨⟨by simp,fun r hr=>by simp at hr⟩,h⟩) rfl
 have hs:=hp ⟨4,[],n⟩ ⟨hn,by simp⟩
 have hgn:=sa gs
 have Qw:=n9 gs
 have hg1:=hg.1
 have lL:=hg.2
 have IE:=hn.1
 have uk:=hn.2
 unfold pP
 rw[show aW n=.sl n.length (n.map bn)from rfl,show aX gs=.sl gs.length (gs.flatMap Gn.c)from rfl]at*
 (try dsimp only at hs)
 (try rw[show aW n=.sl n.length (n.map bn)from rfl]at hs)
 rw[show cU l=.sl l.length (l.flatMap Sb.c)from rfl]at hp hq hs⊢
 refine ah func33 rfl call33 ?_ ?_
 rotate_left 1
 refine af (s':=(.agg [.sl l.length (l.flatMap Sb.c)]:V)::(.agg [.sl n.length (n.map bn)]:V)::(.sl gs.length (gs.flatMap Gn.c):V)::zJ 58) rfl ?_;dsimp only[zJ]
 generalize gs.flatMap Gn.c=cells at*
 generalize l.flatMap Sb.c=X at*
 ·refine b8 fun K hK=>?_
  repeat' (first|refine Zr ?_|refine Zt ?_|(refine Yb rfl ?_ ?_<;>intro ab<;>(try simp at ab)<;>try exact dc)|refine Zo ?_|refine Zx ?_|fail)
  refine hK _ _ ?_;clear hK K
  refine Cp fun K1 Dl yW=>?_
  have lu:(oY n).all (cn l)=true→K1 ((V.aa::V.aa::(V.sl gs.length cells)::(V.ref 0 0)::(V.ref 1 0)::V.aa::V.aa::V.aa::V.aa::V.aa::V.aa::V.aa::V.aa::V.aa::V.aa::V.aa::V.aa::V.aa::V.aa::V.aa::V.aa::V.aa::V.aa::V.aa::V.aa::V.aa::V.aa::V.aa::V.aa::V.aa::V.aa::V.aa::V.aa::V.aa::V.aa::V.aa::V.aa::V.aa::V.aa::V.aa::V.aa::V.aa::V.aa::V.aa::V.aa::V.aa::V.aa::V.aa::V.aa::V.aa::V.aa::V.aa::V.aa::V.aa::V.aa::V.aa::V.aa::V.aa::V.aa::V.aa::V.aa::[])) [.live [.sl l.length X],.live [.sl n.length (n.map bn)]]:=by
   intro IF
   refine Dl _ _ ?_
   rw[IF]
   clear Dl yW K1 hs
   repeat' (first|refine Zr ?_|refine Zt ?_|refine Y8 fun K hK=>?_|(apply hK;clear hK K)|(refine Yb rfl ?_ ?_<;>intro ab<;>(try simp at ab)<;>try exact dc)|refine Zo ?_|refine Zx ?_|clear hK K)
   refine bm (α:=Nat) (fun i=>(zS 2 (zN 2 (some V.aa::none::some V.aa::none::some V.aa::none::some V.aa::none::zS 13 (zN 2 (some (V.int .i64 i)::zS 33 [])))))) (fun i=> [.live [.sl l.length X],.live [.sl n.length (n.map bn)]]) (fun i=>i≤n.length∧ ∀j (h:j<n.length),j<i→n[j].all (fE l)=true) (fun i=>n.length-i) 0 ⟨by omega,fun j _ h=>by omega⟩ ?_ ?_
   ·exact Yv [some 0,some 1]
   rintro i ⟨hi,hall⟩ KL hL
   dsimp only[aE,zN,zS]
   rcases apQ i n.length with hi|hi
   ·have lD:=uk _ (apY hi)
    have aP:n[i].all (fE l)=true→i+1≤n.length∧ ∀j (h:j<n.length),j<i+1→n[j].all (fE l)=true:=fun hx=>⟨by omega,fun j hj h=>by
     rcases apQ j i with h3|h3
     ·exact hall j hj h3
     ·obtain rfl:j=i:=by omega
      exact hx⟩
    have bV:n[i].all (fE l)=false→(n.all fun r=>r.all (fE l))=false:=il (p:=fun r:List At=>r.all (fE l)) hi
    obtain⟨r,hr⟩: ∃r,n[i]=r:=⟨_,rfl⟩
    rw[hr]at lD aP bV
    clear hall Qw lL uk hp
    repeat' (first|((first|refine Zu ?_|(refine Zv ?_ ?_;(focus (simp[hr,bn];done))));intro K9 h9;simp(disch:=first|exact dd|fail) [hr,bn];refine Zm ?_;refine Zf h9 ?_;clear h9 K9)|refine Zt ?_|refine Y8 fun K hK=>?_|(apply hK;clear hK K)|(refine Yb rfl ?_ ?_<;>intro ab<;>(try simp at ab)<;>try exact dc)|(refine Zn ?_ ?_;(focus (simp[hr,bn];done));refine Zs ?_)|refine Zx ?_|clear hK K)
    refine bm (α:=Nat) (fun k=>(zS 2 (zN 2 (some V.aa::none::some V.aa::none::some V.aa::none::some V.aa::none::zS 13 (zN 3 (zS 3 (zN 2 (some (V.int .i64 k)::zS 27 [])))))))) (fun k=> [.live [.sl l.length X],.live [.sl n.length (n.map bn)]]) (fun k=>k≤r.length∧ ∀j (h:j<r.length),j<k→fE l r[j]=true) (fun k=>r.length-k) 0 ⟨by omega,fun j _ h=>by omega⟩ ?_ ?_
    ·exact Yv [some 0,some 1]
    rintro k ⟨hk,lp⟩ KM hM
    dsimp only[aE,zN,zS]
    have ie:=la r
    rcases apQ k r.length with hk|hk
    ·clear hL aP
     have bA:=qA r k hk
     have hw:=lD.2 _ (apY hk)
     have lG:fE l r[k]=true→k+1≤r.length∧ ∀j (h:j<r.length),j<k+1→fE l r[j]=true:=fun hx=>⟨by omega,fun j hj h=>by
      rcases apQ j k with h3|h3
      ·exact lp j hj h3
      ·obtain rfl:j=k:=by omega
       exact hx⟩
     have jm:fE l r[k]=false→r.all (fE l)=false:=il hk
     clear lp
     obtain⟨a,ha⟩: ∃a,r[k]=a:=⟨_,rfl⟩
     rw[ha]at bA hw lG jm
     rw[show a.c=[.str a.t,.int .i64 a.k,.str a.v]from rfl]at bA
     obtain⟨Yy,kD,afz,kE⟩:=Qs bA
     by_cases hm:a.t=[49,46,50,46,56,52,48,46,49,49,51,53,52,57,46,49,46,57,46,49]
     ·have dC:=hq a.v hw
      cases hb:cn l ⟨1,a.v,[]⟩<;>rw[hb]at dC
      ·have e1:fE l a=false:=by unfold fE xb;rw[if_pos hm];simp[hb]
       rw[bV (jm e1)]
       repeat' (first|((first|refine fc ?_|(refine fU ?_ ?_;(focus (simp[hr,bn,bA,kD,kE,ie,hm];done))));intro K9 h9;simp(disch:=first|exact dd|fail) [hr,bn,bA,kD,kE,ie,hm];refine Zm ?_;((first|refine Ap dC ?_|skip)<;>(refine fe h9 ?_;clear h9 K9)))|refine ay ?_|refine Y8 fun K hK=>?_|(apply hK;clear hK K)|(refine Yb rfl ?_ ?_<;>intro ab<;>(try simp at ab)<;>try exact dc)|(refine C0 ?_ ?_;(focus (simp[hr,bn,bA,kD,kE,ie,hm];done));refine C1 ?_)|refine Zx ?_|clear hK K)
       (try simp)
       exact .pure .bool
      ·have e1:fE l a=true:=by unfold fE xb;rw[if_pos hm];simp[hb]
       repeat' (first|((first|refine fc ?_|(refine fU ?_ ?_;(focus (simp[hr,bn,bA,kD,kE,ie,hm];done))));intro K9 h9;simp(disch:=first|exact dd|fail) [hr,bn,bA,kD,kE,ie,hm];refine Zm ?_;((first|refine Ap dC ?_|skip)<;>(refine fe h9 ?_;clear h9 K9)))|refine ay ?_|refine Y8 fun K hK=>?_|(apply hK;clear hK K)|(refine Yb rfl ?_ ?_<;>intro ab<;>(try simp at ab)<;>try exact dc)|(refine C0 ?_ ?_;(focus (simp[hr,bn,bA,kD,kE,ie,hm];done));refine C1 ?_)|refine Zx ?_|clear hK K)
       refine hM (k+1) _ _ (lG e1) (by omega) ?_
       exact Yv [some 0,some 1]
     ·have e1:fE l a=true:=by unfold fE xb;rw[if_neg hm];rfl
      repeat' (first|((first|refine fc ?_|(refine fU ?_ ?_;(focus (simp[hr,bn,bA,kD,kE,ie,hm];done))));intro K9 h9;simp(disch:=first|exact dd|fail) [hr,bn,bA,kD,kE,ie,hm];refine Zm ?_;refine fe h9 ?_;clear h9 K9)|refine ay ?_|refine Y8 fun K hK=>?_|(apply hK;clear hK K)|(refine Yb rfl ?_ ?_<;>intro ab<;>(try simp at ab)<;>try exact dc)|(refine C0 ?_ ?_;(focus (simp[hr,bn,bA,kD,kE,ie,hm];done));refine C1 ?_)|refine Zx ?_|clear hK K)
      refine hM (k+1) _ _ (lG e1) (by omega) ?_
      exact Yv [some 0,some 1]
    ·clear hM
     have e2:r.all (fE l)=true:=jt fun j hj=>lp j hj (by omega)
     repeat' (first|((first|refine Zu ?_|(refine Zv ?_ ?_;(focus (simp[hr,bn];done))));intro K9 h9;simp(disch:=first|exact dd|fail) [hr,bn];refine Zm ?_;refine Zf h9 ?_;clear h9 K9)|refine Zt ?_|refine Y8 fun K hK=>?_|(apply hK;clear hK K)|(refine Yb rfl ?_ ?_<;>intro ab<;>(try simp at ab)<;>try exact dc)|(refine Zn ?_ ?_;(focus (simp[hr,bn];done));refine Zs ?_)|refine Zx ?_|clear hK K)
     refine hL (i+1) _ _ (aP e2) (by omega) ?_
     exact Yv [some 0,some 1]
   ·clear hL hq uk
    have MR:(n.all fun r=>r.all (fE l))=true:=jt (p:=fun r:List At=>r.all (fE l)) fun j hj=>hall j hj (by omega)
    clear hall
    repeat' (first|refine Zr ?_|refine Zt ?_|refine Y8 fun K hK=>?_|(apply hK;clear hK K)|(refine Yb rfl ?_ ?_<;>intro ab<;>(try simp at ab)<;>try exact dc)|refine Zo ?_|refine Zx ?_|clear hK K)
    refine bm (α:=Nat) (fun i=>(zS 3 (none::some V.aa::none::some V.aa::none::some V.aa::none::some V.aa::none::zS 38 (zN 2 (some (V.int .i64 i)::zS 8 []))))) (fun i=> [.live [.sl l.length X],.live [.sl n.length (n.map bn)]]) (fun i=>i≤gs.length∧ ∀j (h:j<gs.length),j<i→cn l gs[j]=true) (fun i=>gs.length-i) 0 ⟨by omega,fun j _ h=>by omega⟩ ?_ ?_
    ·exact Yv [some 0,some 1]
    rintro j ⟨hj,hall⟩ KL hL
    dsimp only[aE,zN,zS]
    rcases apQ j gs.length with hj|hj
    ·have aP:cn l gs[j]=true→j+1≤gs.length∧ ∀m (h:m<gs.length),m<j+1→cn l gs[m]=true:=fun hx=>⟨by omega,fun m hm h=>by
      rcases apQ m j with h3|h3
      ·exact hall m hm h3
      ·obtain rfl:m=j:=by omega
       exact hx⟩
     have bV:cn l gs[j]=false→gs.all (cn l)=false:=il hj
     have hc:=Qw j hj
     have dC:=hp gs[j] (lL _ (apY _))
     generalize gs[j]=x at*
     rw[show x.c=[.int .i64 x.kind,.str x.text,aW x.name]from rfl]at hc
     cases hb:cn l x<;>rw[hb]at dC
     ·rw[bV hb]
      repeat' (first|refine Z4 hc dC ?_|refine Zt ?_|refine Y8 fun K hK=>?_|(apply hK;clear hK K)|(refine Yb rfl ?_ ?_<;>intro ab<;>(try simp at ab)<;>try exact dc)|refine Z6 hc ?_|refine Zx ?_|clear hK K)
      (try simp)
      exact .pure .bool
     ·repeat' (first|refine Z4 hc dC ?_|refine Zt ?_|refine Y8 fun K hK=>?_|(apply hK;clear hK K)|(refine Yb rfl ?_ ?_<;>intro ab<;>(try simp at ab)<;>try exact dc)|refine Z6 hc ?_|refine Zx ?_|clear hK K)
      refine hL (j+1) _ _ (aP hb) (by omega) ?_
      exact Yv [some 0,some 1]
    ·have pL:gs.all (cn l)=true:=jt fun m hm=>hall m hm (by omega)
     repeat' (first|refine Zr ?_|refine Zt ?_|refine Y8 fun K hK=>?_|(apply hK;clear hK K)|(refine Yb rfl ?_ ?_<;>intro ab<;>(try simp at ab)<;>try exact dc)|refine Zo ?_|refine Zx ?_|clear hK K)
     rw[MR,pL]
     (try simp)
     exact .pure .bool
  by_cases h0:n.length=0
  ·have IF:(oY n).all (cn l)=true:=by unfold oY;rw[if_pos h0];rfl
   have m1:=lu IF
   clear lu
   have hz:(0<n.length)=False:=eq_false (by omega)
   repeat' (first|refine b9 hz ?_|refine ay ?_|refine Y8 fun K hK=>?_|(apply hK;clear hK K)|(refine Yb rfl ?_ ?_<;>intro ab<;>(try simp at ab)<;>try exact dc)|refine aK hz ?_|refine Zx ?_|clear hK K)
   refine yW.le _ _ _ _ ?_ m1
   exact Yv [some 0,some 1]
  ·have np:(oY n).all (cn l)=cn l ⟨4,[],n⟩:=by unfold oY;rw[if_neg h0];simp
   have hz:(0<n.length)=True:=eq_true (by omega)
   cases hb:cn l ⟨4,[],n⟩<;>rw[hb]at hs np
   ·rw[np]
    clear lu
    repeat' (first|refine bS hz hs ?_|refine ay ?_|refine Y8 fun K hK=>?_|(apply hK;clear hK K)|(refine Yb rfl ?_ ?_<;>intro ab<;>(try simp at ab)<;>try exact dc)|refine aK hz ?_|refine Zx ?_|clear hK K)
    (try simp)
    exact .pure .bool
   ·have m1:=lu np
    clear lu
    repeat' (first|refine bS hz hs ?_|refine ay ?_|refine Y8 fun K hK=>?_|(apply hK;clear hK K)|(refine Yb rfl ?_ ?_<;>intro ab<;>(try simp at ab)<;>try exact dc)|refine aK hz ?_|refine Zx ?_|clear hK K)
    refine yW.le _ _ _ _ ?_ m1
    exact Yv [some 0,some 1]
 ·exact .bool
end Go.Proofs.YtjlnoogcggdhkaaGreatDoor
