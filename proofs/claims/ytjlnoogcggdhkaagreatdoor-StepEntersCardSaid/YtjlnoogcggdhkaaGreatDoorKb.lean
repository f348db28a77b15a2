/-
 CERTIFICATES OF SHAPES: what is known of a certificate that was decoded.
 Conditions: none.
-/
import Derived.Test.YtjlnoogcggdhkaaGreatDoorK5
set_option maxRecDepth 100000
set_option maxHeartbeats 32000000
set_option linter.all false
namespace Go.VS
def dz:Nat→V→V
 |0,v=>v
 |n+1,v=>match v with
  |.aj=>.sl 0 []
  |.sl m cs=>.sl m (cs.map (dz n))
  |.agg cs=>.agg (cs.map (dz n))
  |.aB cs=>.aB (cs.map (dz n))
  |v=>v
theorem tL(n:Nat)(k:IntKind)(x:Int):dz n (.int k x)=.int k x:=by cases n<;>rfl
theorem pz(n:Nat)(s:List UInt8):dz n (.str s)=.str s:=by cases n<;>rfl
theorem wM(n:Nat)(b:Bool):dz n (.bool b)=.bool b:=by cases n<;>rfl
theorem KD{n:Nat}{cs:List V}{i:Nat}{x:V}(h:(cs.map (dz n))[i]?=some x): ∃y,cs[i]?=some y∧x=dz n y:=by
 rw[apZ]at h
 cases hc:cs[i]? with
 |none=>rw[hc]at h;cases h
 |some y=>rw[hc]at h;exact⟨y,rfl,(apO h).symm⟩
theorem Rd.dz: ∀(n:Nat) {w:World} {ro:Nat→Prop} {ρ:bP} {u:Value} {v:V},Rd w ro ρ u v→Rd w ro ρ u (VS.dz n v)
 |0,_,_,_,_,_,h=>h
 |n+1,w,ro,ρ,u,v,h=>by
  cases v with
  |aj=>
   cases h with
   |aj=>exact .lB
  |sl m cs=>
   cases h with
   |lB=>exact .lB
   |oO=>exact .oO
   |sl h1 h2 h3 h4 h5 h6=>
    exact .sl h1 h2 h3 (by simpa using h4) h5 fun i u x hu hx=>by
     obtain⟨y,hy,rfl⟩:=KD hx
     exact(h6 i u y hu hy).dz n
  |agg cs=>
   cases h with
   |agg h1 h2=>
    exact .agg (by simpa using h1) fun i u x hu hx=>by
     obtain⟨y,hy,rfl⟩:=KD hx
     exact(h2 i u y hu hy).dz n
  |aB cs=>
   cases h with
   |aB h1 h2=>
    exact .aB (by simpa using h1) fun i u x hu hx=>by
     obtain⟨y,hy,rfl⟩:=KD hx
     exact(h2 i u y hu hy).dz n
  |_=>exact h
theorem V.Pure.dz: ∀(n:Nat) {v:V},v.Pure→(VS.dz n v).Pure
 |0,_,h=>h
 |n+1,v,h=>by
  cases v with
  |aj=>exact .sl
  |sl m cs=>exact .sl
  |agg cs=>
   exact .agg fun x hx=>by
    obtain⟨y,hy,rfl⟩:=aqd.1 hx
    exact(V.qb.1 h y hy).dz n
  |aB cs=>
   exact .aB fun x hx=>by
    obtain⟨y,hy,rfl⟩:=aqd.1 hx
    exact(V.xF.1 h y hy).dz n
  |_=>exact h
theorem EP.dz{P:Program}{f:FuncId}{args:List V}{R:V→Prop}(n:Nat)(h:EP P f args R):EP P f args fun r=> ∃r0,R r0∧r=VS.dz n r0:=
 ⟨h.1,fun w ro ρ vs g go ha=>(h.2 w ro ρ vs g go ha).mono fun e w' ⟨v,r,ad,aY,ρ',h1,h2,h3,h4⟩=>⟨v,VS.dz n r,ad,aY,ρ',h1,⟨⟨r,h2.1,rfl⟩,h2.2.dz n⟩,h3,h4.dz n⟩⟩
theorem EG.dz{P:Program}{f:FuncId}{args:List V}{rows:List (List V)}{R:V→List (List V)→Prop}(n:Nat)(h:EG P f args rows R):EG P f args rows fun r ad=> ∃r0 AG,R r0 AG∧r=VS.dz n r0∧ad=AG.map (·.map nz):=
 ⟨h.1,fun w ro ρ vs g go ha=>(h.2 w ro ρ vs g go ha).mono fun e w' ⟨v,r,rs,aY,ρ',h1,⟨ad,q1,q2,q3,q4,q5⟩,h3,h4⟩=>by
  refine⟨v,VS.dz n r,rs.map Ax,aY,ρ',h1,⟨ad.map (·.map nz),⟨r,ad,q1,rfl,rfl⟩,q2.dz n,by simpa using q3,fun x hx=>?_,?_⟩,h3.nz,h4.dz n⟩
  ·obtain⟨y,hy,rfl⟩:=aqd.1 hx
   intro z hz
   obtain⟨u,hu,rfl⟩:=aqd.1 hz
   have:=q4 y hy u hu
   cases u<;>first|exact .sl|exact this
  ·subst q5
   simp[cQ,Ax,Function.comp_def]⟩
end Go.VS
namespace Go.Ck
open Go.VS Go.Stp
section
variable [eb]
theorem aJ{θ:List Int}{t:T}{ts:List T}{vs:List V}(h:bg θ (t::ts) vs): ∃v us,vs=v::us∧Has θ t v∧bg θ ts us:=by
 match vs,h with
 |[],h=>exact absurd h.1 (by simp)
 |v::us,h=>exact⟨v,us,rfl,h.2 0 t v rfl rfl,by simpa using h.1,fun i a b ha hb=>h.2 (i+1) a b (by simpa using ha) (by simpa using hb)⟩
theorem fK{θ:List Int}{vs:List V}(h:bg θ [] vs):vs=[]:=apW h.1.symm
theorem jN{x:V}(h:Has [0] (.bool none [] []) x): ∃b,x=.bool b:=by
 cases h with
 |bool=>exact⟨_,rfl⟩
theorem zU{α:Type}{es:List T}{c:α→List V}{Q:α→Prop}{n:Nat}(bw:es≠ [])(h: ∀cells,bg [0] es cells→ ∃a,cells.map (dz n)=c a∧Q a):
  ∀(m:Nat) (cs:List V),cs.length=m*es.length→(∀(i:Nat) t v,es[i%es.length]?=some t→cs[i]?=some v→Has [0] t v)→ ∃l:List α,l.length=m∧cs.map (dz n)=l.flatMap c∧ ∀a∈l,Q a
 |0,cs,hl,_=>by
  obtain rfl:=apW (by simpa using hl)
  exact⟨[],rfl,rfl,fun a h=>by simp at h⟩
 |m+1,cs,hl,hv=>by
  have hk:0<es.length:=aqj.2 bw
  rw[art]at hl
  obtain⟨a,ha,hq⟩:=h (cs.take es.length) ⟨by simp;omega,fun i t v ht hc=>by
   have hi:=(apN.1 ht).1
   rw[aqc,if_pos hi]at hc
   exact hv i t v (by rw[aq1 hi];exact ht) hc⟩
  obtain⟨l,eu,hlc,hlq⟩:=zU bw h m (cs.drop es.length) (by simp;omega) fun i t v ht hc=>by
   rw[aqb]at hc
   exact hv (es.length+i) t v (by rw[Nat.add_mod_left];exact ht) hc
  refine⟨a::l,by simp[eu],?_,fun b hb=>?_⟩
  ·rw[arV,←ha,←hlc,←arn,aqE]
  ·rcases ap8.1 hb with rfl|hb
   ·exact hq
   ·exact hlq b hb
theorem qR{α:Type}{L:Int}{es:List T}{c:α→List V}{Q:α→Prop}{n:Nat}(h: ∀cells,bg [0] es cells→ ∃a,cells.map (dz n)=c a∧Q a){v:V}(hv:Has [0] (.sl (.aR 0 L) es) v):
  ∃l:List α,dz (n+1) v=.sl l.length (l.flatMap c)∧(l.length:Int)≤L∧ ∀a∈l,Q a:=by
 cases hv with
 |kW p _=>exact⟨[],rfl,p.2,fun a h=>by simp at h⟩
 |sl p bw hl tX=>
  obtain⟨l,h1,h2,h3⟩:=zU bw h _ _ hl tX
  refine⟨l,?_,by rw[h1];exact p.2,h3⟩
  rw[h1]
  show V.sl _ _=_
  rw[h2]
theorem zV{α:Type}(f:α→V): ∀l:List α,l.flatMap (fun a=> [f a])=l.map f
 |[]=>rfl
 |a::l=>by rw[arV,zV f l];rfl
theorem Nx{α:Type}{L:Int}{e:T}{c:α→V}{Q:α→Prop}{n:Nat}(h: ∀x,Has [0] e x→ ∃a,dz n x=c a∧Q a){v:V}(hv:Has [0] (.sl (.aR 0 L) [e]) v):
  ∃l:List α,dz (n+1) v=.sl l.length (l.map c)∧(l.length:Int)≤L∧ ∀a∈l,Q a:=by
 obtain⟨l,h1,h2,h3⟩:=qR (c:=fun a=> [c a]) (Q:=Q) (n:=n) (fun cells hc=>by
  obtain⟨x,us,rfl,hx,hu⟩:=aJ hc
  obtain rfl:=fK hu
  obtain⟨a,ha,hq⟩:=h x hx
  exact⟨a,by simp[ha],hq⟩) hv
 exact⟨l,by rw[h1,zV],h2,h3⟩
abbrev iT:T:=.int .i64 (.aR (-9223372036854775808) 9223372036854775807)
abbrev sT:T:=.str (.aR 0 100000000)
abbrev bT:T:=.bool none [] []
abbrev atL:List T:=[sT,iT,.str (.aR 0 131072)]
abbrev BW:T:=.sl (.aR 0 131072) [.sl (.aR 0 131072) atL]
abbrev gnL:List T:=[iT,.str (.aR 0 131072),BW]
abbrev rm:T:=.sl (.aR 0 131072) gnL
abbrev FJ:T:=.sl (.aR 0 100000000) [sT]
abbrev Uz:T:=.sl (.aR 0 100000000) [sT,sT]
abbrev ptL:List T:=[rm,iT,bT,BW]
abbrev UA:T:=.sl (.aR 0 100000000) ptL
abbrev aao:T:=.sl (.aR 0 100000000) [sT,bT,sT]
theorem aap(n:Nat)(cells:List V)(h:bg [0] atL cells): ∃a:At,cells.map (dz n)=a.c∧a.v.length≤131072:=by
 obtain⟨x,us,rfl,hx,h⟩:=aJ h
 obtain⟨y,us,rfl,hy,h⟩:=aJ h
 obtain⟨z,us,rfl,hz,h⟩:=aJ h
 obtain rfl:=fK h
 obtain⟨s,rfl,-,-⟩:=cN hx
 obtain⟨k,rfl,-,-⟩:=cW hy
 obtain⟨v,rfl,-,hv⟩:=cN hz
 exact⟨⟨s,k,v⟩,by simp[tL,pz,At.c],by dsimp only;omega⟩
theorem wN(n:Nat){v:V}(h:Has [0] BW v): ∃N:Nm,dz (n+3) v=aW N∧WN N:=by
 obtain⟨l,h1,h2,h3⟩:=Nx (c:=bn) (Q:=fun r:List At=>r.length≤131072∧ ∀a∈r,a.v.length≤131072) (n:=n+2) (fun x hx=>by
  obtain⟨r,r1,r2,r3⟩:=qR (c:=At.c) (Q:=fun a:At=>a.v.length≤131072) (n:=n+1) (aap (n+1)) hx
  exact⟨r,r1,by omega,r3⟩) h
 exact⟨l,h1,by omega,h3⟩
theorem aaq(n:Nat)(cells:List V)(h:bg [0] gnL cells): ∃g:Gn,cells.map (dz (n+3))=g.c∧WE g:=by
 obtain⟨x,us,rfl,hx,h⟩:=aJ h
 obtain⟨y,us,rfl,hy,h⟩:=aJ h
 obtain⟨z,us,rfl,hz,h⟩:=aJ h
 obtain rfl:=fK h
 obtain⟨k,rfl,-,-⟩:=cW hx
 obtain⟨s,rfl,-,hs⟩:=cN hy
 obtain⟨N,hN,hw⟩:=wN n hz
 exact⟨⟨k,s,N⟩,by rw[aqt,aqt,aqt,hN,tL,pz];rfl,hw,by dsimp only;omega⟩
theorem qh(n:Nat){v:V}(h:Has [0] rm v): ∃l:List Gn,dz (n+4) v=aX l∧WG l:=by
 obtain⟨l,h1,h2,h3⟩:=qR (c:=Gn.c) (Q:=WE) (n:=n+3) (aaq n) h
 exact⟨l,h1,by omega,h3⟩
theorem CR(n:Nat){v:V}(h:Has [0] FJ v): ∃l:List (List UInt8),dz (n+1) v=bY l:=by
 obtain⟨l,h1,-,-⟩:=Nx (c:=V.str) (Q:=fun _=>True) (n:=n) (fun x hx=>by
  obtain⟨s,rfl,-,-⟩:=cN hx
  exact⟨s,pz n s,trivial⟩) h
 exact⟨l,h1⟩
theorem Xd(n:Nat){v:V}(h:Has [0] Uz v): ∃l:List Mp,dz (n+1) v=ff l:=by
 obtain⟨l,h1,-,-⟩:=qR (c:=Mp.c) (Q:=fun _=>True) (n:=n) (fun cells h=>by
  obtain⟨x,us,rfl,hx,h⟩:=aJ h
  obtain⟨y,us,rfl,hy,h⟩:=aJ h
  obtain rfl:=fK h
  obtain⟨s,rfl,-,-⟩:=cN hx
  obtain⟨t,rfl,-,-⟩:=cN hy
  exact⟨⟨s,t⟩,by simp[pz,Mp.c],trivial⟩) h
 exact⟨l,h1⟩
theorem Xe(n:Nat){v:V}(h:Has [0] aao v): ∃l:List Stp.Ex,dz (n+1) v=gk l:=by
 obtain⟨l,h1,-,-⟩:=qR (c:=Stp.Ex.c) (Q:=fun _=>True) (n:=n) (fun cells h=>by
  obtain⟨x,us,rfl,hx,h⟩:=aJ h
  obtain⟨y,us,rfl,hy,h⟩:=aJ h
  obtain⟨z,us,rfl,hz,h⟩:=aJ h
  obtain rfl:=fK h
  obtain⟨s,rfl,-,-⟩:=cN hx
  obtain⟨b,rfl⟩:=jN hy
  obtain⟨t,rfl,-,-⟩:=cN hz
  exact⟨⟨s,b,t⟩,by simp[pz,wM,Stp.Ex.c],trivial⟩) h
 exact⟨l,h1⟩
theorem Ny(n:Nat){v:V}(h:Has [0] UA v): ∃l:List Pt,dz (n+5) v=cM l:=by
 obtain⟨l,h1,-,-⟩:=qR (c:=Pt.c) (Q:=fun _=>True) (n:=n+4) (fun cells h=>by
  obtain⟨x,us,rfl,hx,h⟩:=aJ h
  obtain⟨y,us,rfl,hy,h⟩:=aJ h
  obtain⟨z,us,rfl,hz,h⟩:=aJ h
  obtain⟨u,us,rfl,hu,h⟩:=aJ h
  obtain rfl:=fK h
  obtain⟨G,hG,-⟩:=qh n hx
  obtain⟨k,rfl,-,-⟩:=cW hy
  obtain⟨b,rfl⟩:=jN hz
  obtain⟨N,hN,-⟩:=wN (n+1) hu
  exact⟨⟨G,k,b,N⟩,by simp only[aqt,aq2,hG,hN,tL,wM,Pt.c],trivial⟩) h
 exact⟨l,h1⟩
abbrev aar:List T:=[sT,sT,iT,BW,BW,iT,iT,iT,sT,sT,bT,bT,iT,iT,FJ,FJ,Uz,iT,iT,iT,rm,bT,rm,rm,sT,sT,UA,UA,aao,sT]
structure R3 (c : Ce) : Prop where
 eQ:c.eQ.length≤100000000
 sig:c.sig.length≤100000001
 aT:WN c.aT
 bq:WN c.bq
 names:WG c.info.names
theorem UB(cells:List V)(h:bg [0] aar cells): ∃c:Ce,cells.map (dz 8)=c.c∧R3 c:=by
 obtain⟨v,us,rfl,h0,g1⟩:=aJ h;obtain⟨raw,rfl,-,-⟩:=cN h0
 obtain⟨v,us,rfl,h0,g2⟩:=aJ g1;obtain⟨eQ,rfl,-,anE⟩:=cN h0
 obtain⟨v,us,rfl,h0,g3⟩:=aJ g2;obtain⟨ser,rfl,-,-⟩:=cW h0
 obtain⟨v,us,rfl,h0,g4⟩:=aJ g3;obtain⟨vL,e1,UC⟩:=wN 5 h0
 obtain⟨v,us,rfl,h0,g5⟩:=aJ g4;obtain⟨sub,e2,N0⟩:=wN 5 h0
 obtain⟨v,us,rfl,h0,g6⟩:=aJ g5;obtain⟨nb,rfl,-,-⟩:=cW h0
 obtain⟨v,us,rfl,h0,g7⟩:=aJ g6;obtain⟨na,rfl,-,-⟩:=cW h0
 obtain⟨v,us,rfl,h0,g8⟩:=aJ g7;obtain⟨kh,rfl,-,-⟩:=cW h0
 obtain⟨v,us,rfl,h0,g9⟩:=aJ g8;obtain⟨kid,rfl,-,-⟩:=cN h0
 obtain⟨v,us,rfl,h0,g10⟩:=aJ g9;obtain⟨kro,rfl,-,-⟩:=cN h0
 obtain⟨v,us,rfl,h0,g11⟩:=aJ g10;obtain⟨b1,rfl⟩:=jN h0
 obtain⟨v,us,rfl,h0,g12⟩:=aJ g11;obtain⟨b2,rfl⟩:=jN h0
 obtain⟨v,us,rfl,h0,g13⟩:=aJ g12;obtain⟨pl,rfl,-,-⟩:=cW h0
 obtain⟨v,us,rfl,h0,g14⟩:=aJ g13;obtain⟨us1,rfl,-,-⟩:=cW h0
 obtain⟨v,us,rfl,h0,g15⟩:=aJ g14;obtain⟨pur,e3⟩:=CR 7 h0
 obtain⟨v,us,rfl,h0,g16⟩:=aJ g15;obtain⟨pol,e4⟩:=CR 7 h0
 obtain⟨v,us,rfl,h0,g17⟩:=aJ g16;obtain⟨mps,e5⟩:=Xd 7 h0
 obtain⟨v,us,rfl,h0,g18⟩:=aJ g17;obtain⟨n1,rfl,-,-⟩:=cW h0
 obtain⟨v,us,rfl,h0,g19⟩:=aJ g18;obtain⟨n2,rfl,-,-⟩:=cW h0
 obtain⟨v,us,rfl,h0,g20⟩:=aJ g19;obtain⟨n3,rfl,-,-⟩:=cW h0
 obtain⟨v,us,rfl,h0,g21⟩:=aJ g20;obtain⟨nms,e6,af2⟩:=qh 4 h0
 obtain⟨v,us,rfl,h0,g22⟩:=aJ g21;obtain⟨b3,rfl⟩:=jN h0
 obtain⟨v,us,rfl,h0,g23⟩:=aJ g22;obtain⟨c1,e7,-⟩:=qh 4 h0
 obtain⟨v,us,rfl,h0,g24⟩:=aJ g23;obtain⟨c2,e8,-⟩:=qh 4 h0
 obtain⟨v,us,rfl,h0,g25⟩:=aJ g24;obtain⟨sk,rfl,-,-⟩:=cN h0
 obtain⟨v,us,rfl,h0,g26⟩:=aJ g25;obtain⟨ak,rfl,-,-⟩:=cN h0
 obtain⟨v,us,rfl,h0,g27⟩:=aJ g26;obtain⟨pts,e9⟩:=Ny 3 h0
 obtain⟨v,us,rfl,h0,g28⟩:=aJ g27;obtain⟨fr,e10⟩:=Ny 3 h0
 obtain⟨v,us,rfl,h0,g29⟩:=aJ g28;obtain⟨gn,e11⟩:=Xe 7 h0
 obtain⟨v,us,rfl,h0,g30⟩:=aJ g29;obtain⟨sig,rfl,-,anF⟩:=cN h0
 obtain rfl:=fK g30
 refine⟨⟨raw,eQ,ser,vL,sub,nb,na,⟨kh,kid,kro⟩,⟨b1,b2,pl,us1,pur,pol,mps,n1,n2,n3,nms,b3,⟨c1,c2⟩,sk,ak,pts,fr,gn⟩,sig⟩,?_,by dsimp only;omega,by dsimp only;omega,UC,N0,af2⟩
 simp only[aqt,aq2,e1,e2,e3,e4,e5,e6,e7,e8,e9,e10,e11,tL,pz,wM,Ce.c]
abbrev sbT:T:=.sl (.aR 0 131072) [rm,rm]
theorem Xf(n:Nat){v:V}(h:Has [0] sbT v): ∃l:List Sb,dz (n+5) v=cU l∧Bn l:=by
 obtain⟨l,h1,h2,h3⟩:=qR (c:=Sb.c) (Q:=WS) (n:=n+4) (fun cells h=>by
  obtain⟨x,us,rfl,hx,h⟩:=aJ h
  obtain⟨y,us,rfl,hy,h⟩:=aJ h
  obtain rfl:=fK h
  obtain⟨p,hp,hw⟩:=qh n hx
  obtain⟨q,hq,hw2⟩:=qh n hy
  exact⟨⟨p,q⟩,by simp only[aqt,aq2,hp,hq,Sb.c],hw,hw2⟩) h
 exact⟨l,h1,by omega,h3⟩
abbrev anL:List T:=[BW,iT,sT,sT]
theorem Xg(n:Nat){v:V}(h:Has [0] (.sl (.aR 0 100000000) anL) v): ∃l:List An,dz (n+4) v=jh l:=by
 obtain⟨l,h1,-,-⟩:=qR (c:=An.c) (Q:=fun _=>True) (n:=n+3) (fun cells h=>by
  obtain⟨x,us,rfl,hx,h⟩:=aJ h
  obtain⟨y,us,rfl,hy,h⟩:=aJ h
  obtain⟨z,us,rfl,hz,h⟩:=aJ h
  obtain⟨u,us,rfl,hu,h⟩:=aJ h
  obtain rfl:=fK h
  obtain⟨N,hN,-⟩:=wN n hx
  obtain⟨k,rfl,-,-⟩:=cW hy
  obtain⟨s,rfl,-,-⟩:=cN hz
  obtain⟨t,rfl,-,-⟩:=cN hu
  exact⟨⟨N,⟨k,s,t⟩⟩,by simp only[aqt,aq2,hN,tL,pz,An.c],trivial⟩) h
 exact⟨l,h1⟩
abbrev prL:List T:=[BW,iT,sT,sT,bT,iT,iT,iT,iT,sbT]
structure WPs (s : Pg) : Prop where
 vL:WN s.aT
 names:Bn s.names
 key:s.key.id.length≤100000000∧s.key.root.length≤100000000
theorem aax(cells:List V)(h:bg [0] prL cells): ∃s:Pg,cells.map (dz 8)=s.c∧WPs s:=by
 obtain⟨v,us,rfl,h0,g1⟩:=aJ h;obtain⟨vL,e1,UC⟩:=wN 5 h0
 obtain⟨v,us,rfl,h0,g2⟩:=aJ g1;obtain⟨kh,rfl,-,-⟩:=cW h0
 obtain⟨v,us,rfl,h0,g3⟩:=aJ g2;obtain⟨kid,rfl,-,anG⟩:=cN h0
 obtain⟨v,us,rfl,h0,g4⟩:=aJ g3;obtain⟨kro,rfl,-,anH⟩:=cN h0
 obtain⟨v,us,rfl,h0,g5⟩:=aJ g4;obtain⟨b1,rfl⟩:=jN h0
 obtain⟨v,us,rfl,h0,g6⟩:=aJ g5;obtain⟨n1,rfl,-,-⟩:=cW h0
 obtain⟨v,us,rfl,h0,g7⟩:=aJ g6;obtain⟨n2,rfl,-,-⟩:=cW h0
 obtain⟨v,us,rfl,h0,g8⟩:=aJ g7;obtain⟨n3,rfl,-,-⟩:=cW h0
 obtain⟨v,us,rfl,h0,g9⟩:=aJ g8;obtain⟨n4,rfl,-,-⟩:=cW h0
 obtain⟨v,us,rfl,h0,g10⟩:=aJ g9;obtain⟨sb,e2,zK⟩:=Xf 3 h0
 obtain rfl:=fK g10
 refine⟨⟨vL,⟨kh,kid,kro⟩,b1,n1,n2,n3,n4,sb⟩,?_,UC,zK,by dsimp only;omega⟩
 simp only[aqt,aq2,e1,e2,tL,pz,wM,Pg.c]
abbrev quL:List T:=[.int .i64 (.aR 2000 2000),sT,iT,FJ,bT,bT,bT,rm,iT,bT,.sl (.aR 0 100000000) anL]
theorem aaz(cells:List V)(h:bg [0] quL cells): ∃q:Qu,cells.map (dz 8)=q.c∧q.time=2000:=by
 obtain⟨v,us,rfl,h0,g1⟩:=aJ h;obtain⟨tm,rfl,oL,mL⟩:=cW h0
 obtain⟨v,us,rfl,h0,g2⟩:=aJ g1;obtain⟨pu,rfl,-,-⟩:=cN h0
 obtain⟨v,us,rfl,h0,g3⟩:=aJ g2;obtain⟨ug,rfl,-,-⟩:=cW h0
 obtain⟨v,us,rfl,h0,g4⟩:=aJ g3;obtain⟨pol,e1⟩:=CR 7 h0
 obtain⟨v,us,rfl,h0,g5⟩:=aJ g4;obtain⟨b1,rfl⟩:=jN h0
 obtain⟨v,us,rfl,h0,g6⟩:=aJ g5;obtain⟨b2,rfl⟩:=jN h0
 obtain⟨v,us,rfl,h0,g7⟩:=aJ g6;obtain⟨b3,rfl⟩:=jN h0
 obtain⟨v,us,rfl,h0,g8⟩:=aJ g7;obtain⟨gs,e2,-⟩:=qh 4 h0
 obtain⟨v,us,rfl,h0,g9⟩:=aJ g8;obtain⟨ml,rfl,-,-⟩:=cW h0
 obtain⟨v,us,rfl,h0,g10⟩:=aJ g9;obtain⟨b4,rfl⟩:=jN h0
 obtain⟨v,us,rfl,h0,g11⟩:=aJ g10;obtain⟨an,e3⟩:=Xg 4 h0
 obtain rfl:=fK g11
 refine⟨⟨tm,pu,ug,pol,b1,b2,b3,gs,ml,b4,an⟩,?_,by dsimp only;omega⟩
 simp only[aqt,aq2,e1,e2,e3,tL,pz,wM,Qu.c]
end
end Go.Ck
namespace Go.Ck
open Go.VS Go.Stp
section
variable [eb]
abbrev eT:T:=.int .i64 .top
abbrev uT:T:=.int .i64 (.aR 0 511)
abbrev tT:T:=.int .i64 (.aR 0 3000)
abbrev aaA:T:=.sl (.aR 0 100000000) [rm,uT,bT,BW]
abbrev CS:List T:=[sT,sT,iT,BW,BW,tT,tT,iT,sT,sT,bT,bT,iT,uT,FJ,FJ,Uz,iT,iT,iT,rm,bT,rm,rm,sT,sT,aaA,aaA,.sl (.aR 0 1000) [sT,bT,sT],sT]
theorem FK{k:IntKind}{x:V}(h:Has [0] (.int k .top) x): ∃n,x=.int k n:=by
 cases h with
 |int=>exact⟨_,rfl⟩
theorem CT{a b:T}{v:V}(h:Has [0] (.aB [a,b]) v): ∃x y,v=.aB [x,y]∧Has [0] a x∧Has [0] b y:=by
 cases h with
 |aB h1 h2=>
  obtain⟨x,y,rfl,hx,hy⟩:=VP ⟨h1,h2⟩
  exact⟨x,y,rfl,hx,hy⟩
theorem Bf{l:List T}{v:V}(h:Has [0] (.agg l) v): ∃vs,v=.agg vs∧bg [0] l vs:=by
 cases h with
 |agg h1 h2=>exact⟨_,rfl,h1,h2⟩
end
end Go.Ck
namespace Go.Proofs.YtjlnoogcggdhkaaGreatDoor
open Go.Proofs.Tryz
open Go Go.VS Go.Ck Go.Wk Go.Stp
section
variable [eb]
theorem Pm{f:Nat}{e:fu}(h:bd f)(he:E f=[e])(hr:e.rows=[]){args:List V}(ha:bg [0] e.args args):EP prog e.f args (Has [0] e.res):=
 Kk (h e (by rw[he];simp)) hr ha
theorem Xh{a:List V}(ha:bg [0] CS a):EP prog 42 [.agg a] (Has [0] (.aB [sT,eT])):=
 Pm (e:=⟨42,[.agg CS],[],.aB [sT,eT],[],0⟩) k42 (by kernel_rfl) rfl (bI (bg.agg ha) eJ)
theorem Xi{s t:List UInt8}(hs:s.length≤100000000)(ht:t.length≤100000000):EP prog 44 [.str s,.str t] (Has [0] (.aB [sT,eT])):=
 Pm (e:=⟨44,[sT,sT],[],.aB [sT,eT],[],0⟩) k44 (by kernel_rfl) rfl (bI (.pA (by omega) (by omega)) (bI (.pA (by omega) (by omega)) eJ))
theorem UD{s:List UInt8}(hs:s.length≤100000000):EP prog 45 [.str s] fun r=> ∃(c:Ce) (e:Int),R3 c∧r=.aB [.agg c.c,.int .i64 e]:=by
 refine((Pm (e:=⟨45,[sT],[],.aB [.agg aar,eT],[],0⟩) k45 (by kernel_rfl) rfl (bI (.pA (by omega) (by omega)) eJ)).dz 10).mono ?_
 rintro r ⟨r0,h,rfl⟩
 obtain⟨x,y,rfl,hx,hy⟩:=CT h
 obtain⟨cells,rfl,bZ⟩:=Bf hx
 obtain⟨e,rfl⟩:=FK hy
 obtain⟨c,hc,hw⟩:=UB cells bZ
 refine⟨c,e,hw,?_⟩
 rw[←hc]
 rfl
theorem aaB(ai m:List UInt8):(FB ai 0 0 m).length=564:=by simp[FB,yU,vr (ck ai) ai 0 0 (by simp) 0 (aqf _)]
theorem EP.ze{f:FuncId}{args:List V}{R:V→Prop}(h:EP prog f args R):EP prog f args fun r=> ∃r0,R r0∧r=Stp.ze r0:=
 ⟨h.1,fun w ro ρ vs g go ha=>(h.2 w ro ρ vs g go ha).mono fun e w' ⟨v,r,ad,aY,ρ',h1,h2,h3,h4⟩=>⟨v,Stp.ze r,ad,aY,ρ',h1,⟨⟨r,h2.1,rfl⟩,by
  have hp:=h2.2
  have hz: ∀x:V,x.Pure→(nz x).Pure:=fun x hx=>by cases x<;>first|exact .sl|exact hx
  cases r with
  |agg cs=>
   exact .agg fun x hx=>by
    obtain⟨y,hy,rfl⟩:=aqd.1 hx
    exact hz _ (V.qb.1 hp y hy)
  |_=>exact hz _ hp⟩,h3,DR h4⟩⟩
attribute [local irreducible] bj au aS bz
def nI:Ce:=⟨[],[],0,[],[],0,0,⟨0,[],[]⟩,⟨false,false,0,0,[],[],[],0,0,0,[],false,⟨[],[]⟩,[],[],[],[],[]⟩,[]⟩
theorem UE:R3 nI:=⟨by simp[nI],by simp[nI],⟨by simp[nI],fun r h=>by simp[nI]at h⟩,⟨by simp[nI],fun r h=>by simp[nI]at h⟩,⟨by simp[nI],fun r h=>by simp[nI]at h⟩⟩
theorem rZ{P:Program}{s:List V}{rows:List Row}{rs:List ResultVar}{k:V→Prop}{a:Nat}{t:TypeId}{cs:List V}(id off n:Nat)(hrs:rs=[.cell a t])(ha:bL s a=.ref id off)(pS:rows[id]?=some (.live cs))(bw:cs≠ [])(hu:p9 P t=some true)(hn:dW P t=some n)(hle:off+n≤cs.length)(h:k (.agg ((cs.drop off).take n))):pQ P s rows rs k:=by
 subst hrs
 simp only[pQ,AJ,xo,ha,xz,gr,hu]
 exact⟨cs,pS,bw,n,hn,hle,h⟩
theorem UF(ai:List UInt8)(Pn:ai.length=32)(a:List V)(JC:bf a)(ha:bg [0] CS a):EP prog 14 [.agg a,ow ai 0,.int .i64 0] fun r=> ∃c:Ce,R3 c∧Stp.ze r=.agg c.c:=by
 have h1:=Xh ha
 have ry:a.length=30:=ha.1.symm
 have bw:a≠ []:=by rintro rfl;simp at ry
 have oq:List.take 30 a=a:=apR (by omega)
 have sg: ∀m:List UInt8,m.length≤100000000→ao prog 43 [ow ai 0,.int .i64 0,.str m] (.aB [.str (FB ai 0 0 m),.int .i64 0]):=fun m hm=>HE ai 0 0 m Pn (by omega) (by simp) (by omega)
 have sgl: ∀m:List UInt8,(FB ai 0 0 m).length=564:=aaB ai
 unfold ow at sg⊢
 generalize kT ai 0 (0+1)=L at*
 generalize ck ai=I at*
 refine cR func14 rfl call14 ?_
 refine af (s':=(.agg a:V)::(.agg [.str ai,.str I,.sl (0+1) L]:V)::(.int .i64 0:V)::zJ 39) rfl ?_;dsimp only[zJ]
 repeat' (first|(refine Zu ?_;intro K9 h9;simp(disch:=first|exact dd|fail) [bw,oq,ry];refine Zm ?_;((first|(refine jI h1 (by simpa using JC) (fun r hr hp=>?_);obtain⟨x,y,rfl,hx,hy⟩:=CT hr;obtain⟨s,rfl,-,hs⟩:=cN hx;obtain⟨e,rfl⟩:=FK hy;clear hr hp hx hy)|(refine Ap (sg _ (by omega)) ?_)|(refine jI (Xi (by omega) (by rw[sgl];omega)) (by simp) (fun r hr hp=>?_);obtain⟨x,y,rfl,hx,hy⟩:=CT hr;obtain⟨s2,rfl,-,hs2⟩:=cN hx;obtain⟨e2,rfl⟩:=FK hy;clear hr hp hx hy)|(refine jI (UD (by omega)) (by simp) (fun r hr hp=>?_);obtain⟨c2,e3,hw2,rfl⟩:=hr;clear hp;rw[Ce.c.eq_1 c2])|skip)<;>(refine Zf h9 ?_;clear h9 K9)))|refine Zt ?_|(refine Yb rfl ?_ ?_<;>intro ab<;>(try simp at ab)<;>try exact dc)|(refine MI rfl rfl rfl (fun hb=>?_) (fun hb=>?_)<;>(fail_if_success (with_reducible cases hb;done))<;>rw[hb]<;>(try simp at hb)<;>(try contradiction)<;>(try(exfalso;omega))))
 ·refine rZ 2 0 30 rfl rfl rfl (by simp) (by kernel_rfl) (by kernel_rfl) (by simp) ?_
  exact⟨_,⟨nI,UE,rfl⟩,by simp,.pure (by simp)⟩
 ·refine rZ 2 0 30 rfl rfl rfl (by simp) (by kernel_rfl) (by kernel_rfl) (by simp) ?_
  exact⟨_,⟨c2,hw2,by rw[Ce.c.eq_1 c2];rfl⟩,by simp,.pure (by simp)⟩
end
end Go.Proofs.YtjlnoogcggdhkaaGreatDoor
namespace Go.Proofs.YtjlnoogcggdhkaaGreatDoor
open Go.Proofs.Tryz
open Go Go.VS Go.Ck Go.Stp
structure JY (l : List Int) (a : Nat) : Prop where
 len:l.length≤140737488355328
 aR: ∀k∈l,-9223372036854775808≤k∧k≤9223372036854775807
 at':a≤140737488355328
def DW(P:Program)(f:FuncId)(rest:List V)(Q:V→Prop):Prop:=
 ∀l a,JY l a→EG P f (.ref 0 0::rest) [dk l a] fun r ad=> ∃l' a',JY l' a'∧Q r∧ad=[dk l' a']
theorem bU{P:Program}{f:FuncId}{rest:List V}{Q:V→Prop}{rows:List Row}{k:KV}{i:Nat}{l:List Int}{a:Nat}(hc:DW P f rest Q)(pS:rows[i]?=some (.live (dk l a)))(hd:JY l a)(h: ∀x∈rest,x.Pure)
  (hk: ∀r l' a',JY l' a'→Q r→r.Pure→k r (rows.set i (.live (dk l' a')))):mh P false (.fn (.func f) []) (.ref i 0::rest) rows k:=by
 refine Cy [i] (hc l a hd) (by simp) (by simp[ae,pS,az,aN]) (by rw[aqp];exact⟨by simp,gM h⟩) rfl fun r ad ⟨l',a',h1,h2,h3⟩ hp hl vZ=>?_
 subst h3
 exact hk r l' a' h1 h2 hp
abbrev nJ:List T:=[.sl (.aR 0 140737488355328) [iT],.int .i64 (.aR 0 140737488355328)]
section
variable [eb]
theorem aaC{l:List Int}{a:Nat}(h:JY l a):bg [0] nJ (dk l a):=by
 refine bI (.sl ⟨by omega,by have:=h.len;omega⟩ (by simp) (by simp) fun i t v ht hv=>?_) (bI (.tN (by omega) (by have:=h.at';omega)) eJ)
 have hm:i% [iT].length=0:=Nat.mod_one i
 rw[hm]at ht
 simp only[aqY,aqy]at ht
 subst ht
 rw[apZ]at hv
 cases hl:l[i]? with
 |none=>rw[hl]at hv;cases hv
 |some n=>
  rw[hl]at hv
  obtain rfl:=apO hv
  have:=h.aR n (aqg hl)
  exact .tN this.1 this.2
theorem aaD{cells:List V}(h:bg [0] nJ cells): ∃l a,JY l a∧cells.map nz=dk l a:=by
 obtain⟨v,us,rfl,h0,g1⟩:=aJ h
 obtain⟨w,us,rfl,h1,g2⟩:=aJ g1
 obtain rfl:=fK g2
 obtain⟨n,rfl,n1,n2⟩:=cW h1
 obtain⟨a,rfl⟩:=aqH n1
 obtain⟨l,e,hl,hr⟩: ∃l:List Int,nz v=.sl l.length (l.map (V.int .i64))∧l.length≤140737488355328∧ ∀k∈l,-9223372036854775808≤k∧k≤9223372036854775807:=by
  cases h0 with
  |kW p _=>exact⟨[],rfl,by simp,fun k h=>by simp at h⟩
  |@sl _ _ m cs p bw hlen tX=>
   obtain⟨l,q1,q2,q3⟩:=zU (es:=[iT]) (c:=fun k:Int=> [V.int .i64 k]) (Q:=fun k=> -9223372036854775808≤k∧k≤9223372036854775807) (n:=0) bw (fun cells hc=>by
    obtain⟨x,us,rfl,hx,hu⟩:=aJ hc
    obtain rfl:=fK hu
    obtain⟨k,rfl,k1,k2⟩:=cW hx
    exact⟨k,rfl,k1,k2⟩) m cs hlen tX
   have q4:cs=l.map (V.int .i64):=by
    have:cs.map (dz 0)=cs:=by
     show cs.map (fun v=>v)=cs
     exact List.map_id' cs
    rw[this,zV]at q2
    exact q2
   refine⟨l,?_,by have:=p.2;omega,q3⟩
   rw[q4,q1]
   rfl
 refine⟨l,a,⟨hl,hr,by omega⟩,?_⟩
 simp only[aqt,aq2,e]
 rfl
theorem Ez{f:FuncId}{e:fu}(h:bd f)(he:e∈E f){ts:List T}(h1:e.args=.ref 0 0::ts)(h2:e.rows=[nJ])(h3:e.ad=[nJ]){rest:List V}(hr:bg [0] ts rest)(n:Nat):DW prog e.f rest fun r=> ∃r0,Has [0] e.res r0∧r=dz n r0:=by
 intro l a hd
 refine cO.mono ((h e he (.ref 0 0::rest) [dk l a] (by rw[h1];exact bI .ref hr) (by rw[h2];exact⟨rfl,fun i t v p q=>by
  cases i with
  |zero=>simp at p q;subst p;subst q;exact aaC hd
  |succ i=>simp at p⟩)).dz n) ?_
 rintro r rs ⟨ad,⟨r0,AG,⟨q1,q2⟩,rfl,rfl⟩,p2,p3,p4,p5⟩
 rw[h3]at q2
 refine⟨_,?_,p2,p3,p4,p5⟩
 match AG,q2 with
 |[cells],q2=>
  obtain⟨l',a',fx,e'⟩:=aaD (q2.2 0 nJ cells rfl rfl)
  exact⟨l',a',fx,⟨r0,q1,rfl⟩,by simp[e']⟩
 |[],q2=>exact absurd q2.1 (by simp)
 |_::_::_,q2=>exact absurd q2.1 (by simp)
end
end Go.Proofs.YtjlnoogcggdhkaaGreatDoor
namespace Go.Proofs.YtjlnoogcggdhkaaGreatDoor
open Go.Proofs.Tryz
open Go Go.VS Go.Ck Go.Stp
structure WCd (c : Ce) : Prop where
 eQ:c.eQ.length≤100000000
 sig:c.sig.length≤100000002
 aT:WN c.aT
 bq:WN c.bq
 names:WG c.info.names
def JZ(n:Nat)(r:V):Prop:= ∃x:Int,0≤x∧x<n∧r=.int .i64 x
theorem DW.mono{P:Program}{f:FuncId}{rest:List V}{Q Q':V→Prop}(h:DW P f rest Q)(hq: ∀r,Q r→Q' r):DW P f rest Q':=fun l a hd=>(h l a hd).mono fun r ad ⟨l',a',h1,h2,h3⟩=>⟨l',a',h1,hq r h2,h3⟩
theorem AX(n:Nat)(hn:(n:Int)∈ [2,3,4,5,6,7,8,12,14,15,16]):DW prog 7 [.int .i64 n] (JZ n):=by
 letI:eb:=⟨fun _=> []⟩
 have hE:E 7=([2,3,4,5,6,7,8,12,14,15,16]:List Int).map fun n=>⟨7,[.ref 0 0,.int .i64 (.aR n n)],[nJ],.int .i64 (.aR 0 (n-1)),[nJ],0⟩:=by kernel_rfl
 refine(Ez (e:=⟨7,[.ref 0 0,.int .i64 (.aR n n)],[nJ],.int .i64 (.aR 0 (n-1)),[nJ],0⟩) k7 (by rw[hE];exact aqd.2 ⟨n,hn,rfl⟩) rfl rfl rfl (bI (.tN (by omega) (by omega)) eJ) 0).mono ?_
 rintro r ⟨r0,h,rfl⟩
 obtain⟨x,rfl,h1,h2⟩:=cW h
 exact⟨x,h1,by omega,rfl⟩
theorem UG[eb](f t:Int)(hf0:0≤f)(hf:f<8)(ZT:0≤t)(ht:t<8)(ca:Bool):DW prog 15 [.int .i64 f,.int .i64 t,.bool ca] fun r=> ∃a,bg [0] CS a∧r=.agg a:=by
 refine(Ez (e:=⟨15,[.ref 0 0,.int .i64 (.aR 0 7),.int .i64 (.aR 0 7),bT],[nJ],.agg CS,[nJ],0⟩) k15 (by rw[show E 15=[⟨15,[.ref 0 0,.int .i64 (.aR 0 7),.int .i64 (.aR 0 7),bT],[nJ],.agg CS,[nJ],0⟩] by kernel_rfl];simp) rfl rfl rfl (bI (.tN (by omega) (by omega)) (bI (.tN (by omega) (by omega)) (bI .Po eJ))) 0).mono ?_
 rintro r ⟨r0,h,rfl⟩
 obtain⟨a,rfl,ha⟩:=Bf h
 exact⟨a,ha,rfl⟩
theorem L6:DW prog 5 [] fun r=> ∃s:Pg,WPs s∧r=.agg s.c:=by
 letI:eb:=⟨fun _=> []⟩
 refine(Ez (e:=⟨5,[.ref 0 0],[nJ],.agg prL,[nJ],{rounds:=0,each:=true}⟩) k5 (by rw[show E 5=[⟨5,[.ref 0 0],[nJ],.agg prL,[nJ],{rounds:=0,each:=true}⟩] by kernel_rfl];simp) rfl rfl rfl eJ 9).mono ?_
 rintro r ⟨r0,h,rfl⟩
 obtain⟨a,rfl,ha⟩:=Bf h
 obtain⟨s,hs,hw⟩:=aax a ha
 exact⟨s,hw,by rw[←hs];rfl⟩
theorem Ue:DW prog 8 [] fun r=> ∃q:Qu,q.time=2000∧r=.agg q.c:=by
 letI:eb:=⟨fun _=> []⟩
 refine(Ez (e:=⟨8,[.ref 0 0],[nJ],.agg quL,[nJ],0⟩) k8 (by rw[show E 8=[⟨8,[.ref 0 0],[nJ],.agg quL,[nJ],0⟩] by kernel_rfl];simp) rfl rfl rfl eJ 9).mono ?_
 rintro r ⟨r0,h,rfl⟩
 obtain⟨a,rfl,ha⟩:=Bf h
 obtain⟨q,hq,hw⟩:=aaz a ha
 exact⟨q,hw,by rw[←hq];rfl⟩
theorem Xj[eb](ai:List UInt8)(Pn:ai.length=32)(a:List V)(hp:bf a)(ha:bg [0] CS a):EP prog 14 [.agg a,ow ai 0,.int .i64 0] fun r=> ∃c:Ce,R3 c∧r=.agg c.c:=by
 refine(EP.ze (UF ai Pn a hp ha)).mono ?_
 rintro r ⟨r0,⟨c,hc,e⟩,rfl⟩
 exact⟨c,hc,e⟩
attribute [local irreducible] bj au bE aS bz
theorem OZ(l:List Int)(a n:Nat)(hl:l.length≤140737488355328)(ha:a≤140737488355328)(hn:0<n)(uk:n≤1099511627776)(hr: ∀k∈l,-9223372036854775808≤k∧k≤9223372036854775807):
  tZ prog 7 [.ref 0 0,.int .i64 n] (dk l a) (dk l (IA l a)) (.int .i64 (By l a n)):=by
 refine C7 func7 rfl call7 ?_ ?_ ?_
 rotate_left 2
 refine af (s':=(.ref 0 0:V)::(.int .i64 n:V)::zJ 37) rfl ?_;dsimp only[zJ]
 by_cases h:l.length≤a
 ·rw[show IA l a=a by rw[IA,if_pos h],show By l a n=0 by rw[By,if_pos h]]
  unfold dk
  repeat' (first|refine Z0 h ?_|refine Zt ?_|(refine Zk 0 [] ?_;refine Zl ?_)|(refine Yb rfl ?_ ?_<;>intro ab<;>(try simp at ab)<;>try exact dc))
  simp
  exact C8
 ·rw[show IA l a=a+1 by rw[IA,if_neg h],show By l a n=((l.getD a 0).tmod n+n).tmod n by rw[By,if_neg h]]
  unfold dk
  have hg:l[a]?=some (l.getD a 0):=by rw[ap2,ap5 (by omega)];rfl
  have hm:l.getD a 0∈l:=aqg hg
  have hb:=hr _ hm
  generalize l.getD a 0=x at*
  have hx:=Bz (x:=x) hn
  repeat' (first|refine Z0 (Zj h hg) ?_|refine Zt ?_|(refine Zk 0 [] ?_;refine Zl ?_)|(refine Yb rfl ?_ ?_<;>intro ab<;>(try simp at ab)<;>try exact dc))
  have hga:l[a]'(by omega)=x:=by have:=hg;rw[ap5 (by omega)]at this;exact apO this
  simp[hga]
  have hw:IntKind.i64.wrap (x.tmod n+n)=x.tmod n+n:=wrap_i64 (by omega) (by omega)
  rw[hw]
  exact⟨rfl,C8⟩
 ·exact .int
 ·simp
theorem aaF(x:Int)(h0:0≤x)(h:x<8):ao prog 16 [.int .i64 x] (ow (fD (1000+x)) 0):=by
 have:=GD x.toNat (by omega)
 rwa[show((x.toNat:Nat):Int)=x by omega]at this
theorem wD(f t:Int)(hf0:0≤f)(hf:f<8)(ZT:0≤t)(ht:t<8)(ca:Bool):DW prog 6 [.int .i64 f,.int .i64 t,.bool ca] fun r=> ∃c:Ce,WCd c∧r=.agg c.c:=by
 letI:eb:=⟨fun _=> []⟩
 intro l a hd
 have n16:DW prog 7 [.int .i64 16] (JZ 16):=AX 16 (by simp)
 have cf:=UG f t hf0 hf ZT ht ca
 have ek:=aaF f hf0 hf
 have PW:(fD (1000+f)).length=32:=HA _
 generalize fD (1000+f)=ai at*
 refine Ff func6 rfl call6 ?_
 refine af (s':=(.ref 0 0:V)::(.int .i64 f:V)::(.int .i64 t:V)::(.bool ca:V)::zJ 22) rfl ?_;dsimp only[zJ]
 refine fW (ad:=[.live (dk l a)]) rfl ?_
 repeat' (first|(refine Zu ?_;intro K9 h9;refine Zd ?_;((first|(refine bU cf rfl (by assumption) (by simp) (fun r l' a' fx hQ hr=>?_);obtain⟨cells,bZ,rfl⟩:=hQ;have rq:bf cells:=V.qb.1 hr;clear hr)|refine Ap ek ?_|(refine jI (Xj ai PW cells rq bZ) (by simpa using rq) (fun r hr hp=>?_);obtain⟨c2,bC,rfl⟩:=hr;clear hp;have j9:=bC.sig;rw[Ce.c.eq_1 c2])|(refine bU n16 rfl (by assumption) (by simp) (fun r l2 a2 Gb hQ hr=>?_);obtain⟨x,qP,pN,rfl⟩:=hQ;clear hr)|skip)<;>(refine Zf h9 ?_;clear h9 K9)))|refine Zt ?_|(refine Yb rfl ?_ ?_<;>intro ab<;>(try simp at ab)<;>try exact dc))
 ·refine rZ 1 0 30 rfl rfl rfl (by simp) (by kernel_rfl) (by kernel_rfl) (by simp) ?_
  refine⟨.agg ({c2 with sig:=c2.sig++[120]}:Ce).c,[dk l2 a2],⟨l2,a2,Gb,⟨{c2 with sig:=c2.sig++[120]},⟨bC.eQ,by simp;omega,bC.aT,bC.bq,bC.names⟩,rfl⟩,rfl⟩,by simp,rfl,by simp,?_⟩
  rw[Ce.c.eq_1]
  exact Le.mk [some 0] (by simp[bL]) (aZ (by simp) (by simp[ae,az,aN])) (by simp)
 ·refine rZ 1 0 30 rfl rfl rfl (by simp) (by kernel_rfl) (by kernel_rfl) (by simp) ?_
  refine⟨.agg c2.c,[dk l2 a2],⟨l2,a2,Gb,⟨c2,⟨bC.eQ,by omega,bC.aT,bC.bq,bC.names⟩,rfl⟩,rfl⟩,by simp,rfl,by simp,?_⟩
  rw[Ce.c.eq_1]
  exact Le.mk [some 0] (by simp[bL]) (aZ (by simp) (by simp[ae,az,aN])) (by simp)
end Go.Proofs.YtjlnoogcggdhkaaGreatDoor
