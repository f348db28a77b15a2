/-
 NAMES: general names of all kinds compared, by the reference.
 Conditions: none.
-/
import Derived.Test.YtjlnoogcggdhkaaGreatDoorJd
import Derived.Test.YtjlnoogcggdhkaaGreatDoorJf
import Derived.Test.YtjlnoogcggdhkaaGreatDoorGn
set_option maxRecDepth 100000
set_option maxHeartbeats 32000000
set_option linter.all false
namespace Go.Proofs.YtjlnoogcggdhkaaGreatDoor
open Go.Proofs.Tryz
open Go.VS Go.Stp
attribute [local irreducible] bj au bE aS bz
def sE(g b:Gn):Bool:=
 if g.kind=b.kind then
  if g.kind=1 then Ho.pO g.text b.text
  else if g.kind=2 then Ho.et g.text b.text
  else if g.kind=4 then et g.name b.name
  else if g.kind=7 then Ho.sF g.text b.text else false
 else false
def jg(g:Gn)(l:List Gn):Bool:=l.any (sE g)
def u9(k:Int)(l:List Gn):Bool:=l.any fun b=>decide (b.kind=k)
def Av(g:Gn)(s:Sb):Bool:=!jg g s.x&&!(u9 g.kind s.p&&!jg g s.p)
def cn(l:List Sb)(g:Gn):Bool:=l.all (Av g)
theorem jt{α:Type}{l:List α}{p:α→Bool}(h: ∀j (hj:j<l.length),p l[j]=true):l.all p=true:=ap1.2 fun x hx=>by
 obtain⟨j,hj,rfl⟩:=aqR hx
 exact h j hj
theorem il{α:Type}{l:List α}{p:α→Bool}{i:Nat}(hi:i<l.length)(h:p l[i]=false):l.all p=false:=by
 cases e:l.all p with
 |false=>rfl
 |true=>rw[ap1.1 e _ (apY hi)]at h;cases h
theorem PU(g b:Gn)(hg:WE g)(hb:WE b):ao prog 156 [.agg g.c,.agg b.c] (.bool (sE g b)):=by
 have hn:=oK g.name b.name hg.1 hb.1
 have ht:=hg.2
 have mL:=hb.2
 have h1:=Ho.Hr g.text b.text (by omega) (by omega)
 have h2:=Ho.oK g.text b.text (by omega) (by omega)
 have h7:=Ho.Ht g.text b.text (by omega) (by omega)
 rw[show g.c=[.int .i64 g.kind,.str g.text,aW g.name]from rfl,show b.c=[.int .i64 b.kind,.str b.text,aW b.name]from rfl]
 refine ah func156 rfl call156 ?_ ?_
 rotate_left 1
 refine af (s':=(.agg [.int .i64 g.kind,.str g.text,aW g.name]:V)::(.agg [.int .i64 b.kind,.str b.text,aW b.name]:V)::zJ 38) rfl ?_;dsimp only[zJ]
 unfold sE
 by_cases h0:g.kind=b.kind
 ·rw[if_pos h0]
  by_cases k1:g.kind=1
  ·rw[if_pos k1]
   have sG:b.kind=1:=by omega
   repeat' (first|refine Z1 (Zj k1 sG) h1 ?_|refine Zt ?_|(refine Yb rfl ?_ ?_<;>intro ab<;>(try simp at ab)<;>try exact dc))
   exact .pure .bool
  by_cases k2:g.kind=2
  ·rw[if_neg k1,if_pos k2]
   have sG:b.kind=2:=by omega
   repeat' (first|refine Z1 (Zj k2 sG) h2 ?_|refine Zt ?_|(refine Yb rfl ?_ ?_<;>intro ab<;>(try simp at ab)<;>try exact dc))
   exact .pure .bool
  by_cases k4:g.kind=4
  ·rw[if_neg k1,if_neg k2,if_pos k4]
   have sG:b.kind=4:=by omega
   repeat' (first|refine Z1 (Zj k4 sG) hn ?_|refine Zt ?_|(refine Yb rfl ?_ ?_<;>intro ab<;>(try simp at ab)<;>try exact dc))
   exact .pure .bool
  by_cases k7:g.kind=7
  ·rw[if_neg k1,if_neg k2,if_neg k4,if_pos k7]
   have sG:b.kind=7:=by omega
   repeat' (first|refine Z1 (Zj @k7 sG) h7 ?_|refine Zt ?_|(refine Yb rfl ?_ ?_<;>intro ab<;>(try simp at ab)<;>try exact dc))
   exact .pure .bool
  ·rw[if_neg k1,if_neg k2,if_neg k4,if_neg k7]
   repeat' (first|refine Z0 (Zj h0 (Zj k1 (Zj k2 (Zj k4 @k7)))) ?_|refine Zt ?_|(refine Yb rfl ?_ ?_<;>intro ab<;>(try simp at ab)<;>try exact dc))
   exact .pure .bool
 ·rw[if_neg h0]
  repeat' (first|refine Z0 h0 ?_|refine Zt ?_|(refine Yb rfl ?_ ?_<;>intro ab<;>(try simp at ab)<;>try exact dc))
  exact .pure .bool
 exact .bool
theorem FZ(g:Gn)(l:List Gn)(hg:WE g)(h:WG l):ao prog 107 [.agg g.c,aX l] (.bool (jg g l)):=by
 rw[show g.c=[.int .i64 g.kind,.str g.text,aW g.name]from rfl]
 unfold aX
 refine ah func107 rfl call107 ?_ ?_
 rotate_left 1
 refine af (s':=(.agg [.int .i64 g.kind,.str g.text,aW g.name]:V)::(.sl l.length (l.flatMap Gn.c):V)::zJ 15) rfl ?_;dsimp only[zJ]
 have eu:=sa l
 have cv:=n9 l
 have hl:=h.1
 have hw:=h.2
 generalize l.flatMap Gn.c=cells at*
 repeat' (first|refine Zq ?_|refine Zt ?_|(refine Yb rfl ?_ ?_<;>intro ab<;>(try simp at ab)<;>try exact dc))
 ·refine bm (α:=Nat) (fun i=>(zS 2 (zN 2 (some V.aa::none::some V.aa::zN 2 (some (V.int .i64 i)::zS 7 []))))) (fun i=> [.live [.int .i64 g.kind,.str g.text,aW g.name]]) (fun i=>i≤l.length∧ ∀j (h:j<l.length),j<i→sE g l[j]=false) (fun i=>l.length-i) 0 ⟨by omega,fun j _ h=>by omega⟩ ?_ ?_
  ·exact Yv [some 0]
  rintro i ⟨hi,hall⟩ KL hL
  dsimp only[aE,zN,zS]
  rcases apQ i l.length with hi|hi
  ·have aP:sE g l[i]=false→i+1≤l.length∧ ∀j (h:j<l.length),j<i+1→sE g l[j]=false:=fun hx=>⟨by omega,fun j hj h=>by
    rcases apQ j i with h3|h3
    ·exact hall j hj h3
    ·obtain rfl:j=i:=by omega
     exact hx⟩
   have mf:sE g l[i]=true→jg g l=true:=any_true hi
   have hc:=cv i hi
   have he:=PU g l[i] hg (hw _ (apY _))
   generalize l[i]=x at*
   rw[show x.c=[.int .i64 x.kind,.str x.text,aW x.name]from rfl]at hc he
   rw[show g.c=[.int .i64 g.kind,.str g.text,aW g.name]from rfl]at he
   cases hb:sE g x<;>rw[hb]at he
   ·repeat' (first|refine Z1 hc he ?_|refine Zt ?_|(refine Yb rfl ?_ ?_<;>intro ab<;>(try simp at ab)<;>try exact dc))
    refine hL (i+1) _ _ (aP hb) (by omega) ?_
    exact Yv [some 0]
   ·repeat' (first|refine Z1 hc he ?_|refine Zt ?_|(refine Yb rfl ?_ ?_<;>intro ab<;>(try simp at ab)<;>try exact dc))
    rw[mf hb]
    exact .pure .bool
  ·repeat' (first|refine Zq ?_|refine Zt ?_|(refine Yb rfl ?_ ?_<;>intro ab<;>(try simp at ab)<;>try exact dc))
   rw[show jg g l=false from any_false fun j hj=>hall j hj (by omega)]
   exact .pure .bool
 ·exact .bool
theorem PV(k:Int)(l:List Gn)(h:l.length≤131072):ao prog 108 [aX l,.int .i64 k] (.bool (u9 k l)):=by
 unfold aX
 refine ah func108 rfl call108 ?_ ?_
 rotate_left 1
 refine af (s':=(.sl l.length (l.flatMap Gn.c):V)::(.int .i64 k:V)::zJ 16) rfl ?_;dsimp only[zJ]
 have eu:=sa l
 have cv:=n9 l
 generalize l.flatMap Gn.c=cells at*
 repeat' (first|refine Zq ?_|refine Zt ?_|(refine Yb rfl ?_ ?_<;>intro ab<;>(try simp at ab)<;>try exact dc))
 ·refine bm (α:=Nat) (fun i=>(some V.aa::zN 3 (some V.aa::none::some V.aa::zN 2 (some (V.int .i64 i)::zS 8 [])))) (fun i=> []) (fun i=>i≤l.length∧ ∀j (h:j<l.length),j<i→decide (l[j].kind=k)=false) (fun i=>l.length-i) 0 ⟨by omega,fun j _ h=>by omega⟩ ?_ ?_
  ·dsimp only[aE,zN,zS]
   exact Yr [] (by simp[ae])
  rintro i ⟨hi,hall⟩ KL hL
  dsimp only[aE,zN,zS]
  rcases apQ i l.length with hi|hi
  ·have aP:decide (l[i].kind=k)=false→i+1≤l.length∧ ∀j (h:j<l.length),j<i+1→decide (l[j].kind=k)=false:=fun hx=>⟨by omega,fun j hj h=>by
    rcases apQ j i with h3|h3
    ·exact hall j hj h3
    ·obtain rfl:j=i:=by omega
     exact hx⟩
   have mf:decide (l[i].kind=k)=true→u9 k l=true:=any_true (p:=fun b:Gn=>decide (b.kind=k)) hi
   have hc:=cv i hi
   generalize l[i]=x at*
   rw[show x.c=[.int .i64 x.kind,.str x.text,aW x.name]from rfl]at hc
   by_cases hb:x.kind=k
   ·repeat' (first|refine Z0 (Zj hc hb) ?_|refine Zt ?_|(refine Yb rfl ?_ ?_<;>intro ab<;>(try simp at ab)<;>try exact dc))
    rw[mf (by simpa using hb)]
    exact .pure .bool
   ·repeat' (first|refine Z0 (Zj hc hb) ?_|refine Zt ?_|(refine Yb rfl ?_ ?_<;>intro ab<;>(try simp at ab)<;>try exact dc))
    refine hL (i+1) _ _ (aP (by simpa using hb)) (by omega) ?_
    exact Yr [] (by simp[ae])
  ·repeat' (first|refine Zq ?_|refine Zt ?_|(refine Yb rfl ?_ ?_<;>intro ab<;>(try simp at ab)<;>try exact dc))
   rw[show u9 k l=false from any_false (p:=fun b:Gn=>decide (b.kind=k)) fun j hj=>hall j hj (by omega)]
   exact .pure .bool
 ·exact .bool
end Go.Proofs.YtjlnoogcggdhkaaGreatDoor
namespace Go.Proofs.YtjlnoogcggdhkaaGreatDoor
open Go.Proofs.Tryz
open Go.VS Go.Stp
attribute [local irreducible] bj au bE aS bz
theorem Ln(l:List Sb)(g:Gn)(hg:WE g)(h:Bn l):ao prog 62 [.agg [cU l],.agg g.c] (.bool (cn l g)):=by
 rw[show g.c=[.int .i64 g.kind,.str g.text,aW g.name]from rfl]
 unfold cU
 refine ah func62 rfl call62 ?_ ?_
 rotate_left 1
 refine af (s':=(.agg [.sl l.length (l.flatMap Sb.c)]:V)::(.agg [.int .i64 g.kind,.str g.text,aW g.name]:V)::zJ 31) rfl ?_;dsimp only[zJ]
 have eu:=Aw l
 have cv:=vJ l
 have hl:=h.1
 have hw:=h.2
 generalize l.flatMap Sb.c=cells at*
 repeat' (first|refine Zr ?_|refine Zt ?_|(refine Yb rfl ?_ ?_<;>intro ab<;>(try simp at ab)<;>try exact dc)|refine Zo ?_|fail)
 ·refine bm (α:=Nat) (fun i=>(zS 3 (none::some V.aa::none::zS 2 (zN 2 (some (V.int .i64 i)::zS 22 []))))) (fun i=> [.live [.sl l.length cells],.live [.int .i64 g.kind,.str g.text,aW g.name]]) (fun i=>i≤l.length∧ ∀j (h:j<l.length),j<i→Av g l[j]=true) (fun i=>l.length-i) 0 ⟨by omega,fun j _ h=>by omega⟩ ?_ ?_
  ·exact Yv [some 0,some 1]
  rintro i ⟨hi,hall⟩ KL hL
  dsimp only[aE,zN,zS]
  rcases apQ i l.length with hi|hi
  ·have aP:Av g l[i]=true→i+1≤l.length∧ ∀j (h:j<l.length),j<i+1→Av g l[j]=true:=fun hx=>⟨by omega,fun j hj h=>by
    rcases apQ j i with h3|h3
    ·exact hall j hj h3
    ·obtain rfl:j=i:=by omega
     exact hx⟩
   have bV:Av g l[i]=false→cn l g=false:=il hi
   have hc:=cv i hi
   have F0:=hw _ (apY hi)
   generalize l[i]=x at*
   have e1:=FZ g x.x hg F0.2
   have e2:=FZ g x.p hg F0.1
   have e3:=PV g.kind x.p F0.1.1
   rw[show g.c=[.int .i64 g.kind,.str g.text,aW g.name]from rfl]at e1 e2
   rw[show x.c=[aX x.p,aX x.x]from rfl]at hc
   unfold Av at aP bV
   cases hx:jg g x.x<;>rw[hx]at e1 aP bV
   ·cases XF:u9 g.kind x.p<;>rw[XF]at e3 aP bV
    ·repeat' (first|refine bS hc (Zj e1 (Zj e2 e3)) ?_|refine ay ?_|(refine Yb rfl ?_ ?_<;>intro ab<;>(try simp at ab)<;>try exact dc)|refine aK hc ?_|fail)
     refine hL (i+1) _ _ (aP rfl) (by omega) ?_
     exact Yv [some 0,some 1]
    ·cases hp:jg g x.p<;>rw[hp]at e2 aP bV
     ·repeat' (first|refine bS hc (Zj e1 (Zj e2 e3)) ?_|refine ay ?_|(refine Yb rfl ?_ ?_<;>intro ab<;>(try simp at ab)<;>try exact dc)|refine aK hc ?_|fail)
      rw[bV rfl]
      exact .pure .bool
     ·repeat' (first|refine bS hc (Zj e1 (Zj e2 e3)) ?_|refine ay ?_|(refine Yb rfl ?_ ?_<;>intro ab<;>(try simp at ab)<;>try exact dc)|refine aK hc ?_|fail)
      refine hL (i+1) _ _ (aP rfl) (by omega) ?_
      exact Yv [some 0,some 1]
   ·repeat' (first|refine bS hc (Zj e1 (Zj e2 e3)) ?_|refine ay ?_|(refine Yb rfl ?_ ?_<;>intro ab<;>(try simp at ab)<;>try exact dc)|refine aK hc ?_|fail)
    rw[bV rfl]
    exact .pure .bool
  ·repeat' (first|refine Zr ?_|refine Zt ?_|(refine Yb rfl ?_ ?_<;>intro ab<;>(try simp at ab)<;>try exact dc)|refine Zo ?_|fail)
   rw[show cn l g=true from jt fun j hj=>hall j hj (by omega)]
   exact .pure .bool
 ·exact .bool
end Go.Proofs.YtjlnoogcggdhkaaGreatDoor
