/-
 VALUE SEMANTICS, 53: regions by shapes, in the order of the text and in any order.
 Conditions: none.
-/
import Derived.Test.YtjlnoogcggdhkaaGreatDoorIc
set_option maxRecDepth 100000
set_option maxHeartbeats 32000000
set_option linter.all false
set_option linter.unusedSectionVars false
namespace Go.Ck
noncomputable section
open Go.VS
variable [eb]
structure RS where
 S:SL
 M:List CE
 R:List AR
 W:List Nat
def OJ(S:SL)(dst:Option Tmp)(d:Nat):Bool:=
 match dst with
 |some x=>decide (x<S.length)&&!Nat.beq x d
 |none=>true
def Vu(n:Nat)(u:List (Nat×AR)):Bool:=u.all fun p=>decide (p.1≤n)
def km(rs:RS)(dst:Option Tmp)(out:Out):Option RS:=
 match out with
 |.none=>none
 |.yes t u=>if AP rs.M dst&&(Rf u&&Vu rs.R.length u)then some ⟨jM rs.S dst t,lx rs.M dst,re rs.R u,u.map (·.1)++rs.W⟩else none
 |.may t d w G=>if AP rs.M dst&&OJ rs.S dst d then some ⟨jM rs.S dst t,rf (lx rs.M dst) dst d w G,rs.R,rs.W⟩else none
 |.no=>if AP rs.M dst then some ⟨jM rs.S dst .undef,lx rs.M dst,rs.R,rs.W⟩else none
section
variable {P : Program} {L : Env} {θ : List Int} {F : List Fact} {S E : SL} {M : List CE} {R : List AR} {id : Nat} {s : List V} {rows : List Row}
theorem BJ{α β:Type}{a:List α}{b:List β}(h: ∀(j:Nat),(a[j]?).isSome=(b[j]?).isSome):a.length=b.length:=by
 rcases Nat.lt_trichotomy a.length b.length with h1|h1|h1
 ·have:=h a.length
  rw[aql (aqf _),ap5 h1]at this
  simp at this
 ·exact h1
 ·have:=h b.length
  rw[aql (aqf _),ap5 h1]at this
  simp at this
theorem Nc{ad:List Row}{u:List (Nat×AR)}(hl:R.length=rows.length)(hr: ∀(i:Nat) a r,R[i]?=some a→rows[i]?=some r→cX θ a r)(hu:uF θ rows ad u)(hn:Rf u=true)(hle:Vu R.length u=true):
  (re R u).length=ad.length∧ ∀(i:Nat) a r,(re R u)[i]?=some a→ad[i]?=some r→cX θ a r:=by
 have j4:=l5 hn
 have xC: ∀p∈u,p.1≤R.length:=fun p hp=>by simpa using ap1.1 hle p hp
 have key: ∀(j:Nat),(∃a r,(re R u)[j]?=some a∧ad[j]?=some r∧cX θ a r)∨((re R u)[j]?=none∧ad[j]?=none):=by
  intro j
  obtain⟨h1,h2,-⟩:=xH u R j xC j4
  by_cases hj: ∃a,(j,a)∈u
  ·obtain⟨a,ha⟩:=hj
   obtain⟨r,lD,j2⟩:=hu.new j a ha
   exact .inl ⟨a,r,h1 a ha,lD,j2⟩
  ·have oB: ∀a,(j,a)∉u:=fun a ha=>hj ⟨a,ha⟩
   rw[h2 oB,hu.fg j oB]
   rcases apQ j R.length with aO|D3
   ·obtain⟨a,ha⟩:=aC aO
    obtain⟨r,jU⟩:=aC (l:=rows) (i:=j) (by omega)
    exact .inl ⟨a,r,ha,jU,hr j a r ha jU⟩
   ·exact .inr ⟨aql D3,aql (by omega)⟩
 refine⟨BJ fun j=>?_,fun i a r ha hr=>?_⟩
 ·rcases key j with⟨a,r,h1,h2,_⟩|⟨h1,h2⟩<;>rw[h1,h2]<;>rfl
 ·rcases key i with⟨a',r',h1,h2,h3⟩|⟨h1,h2⟩
  ·rw[ha]at h1;rw[hr]at h2
   obtain rfl:=apO h1
   obtain rfl:=apO h2
   exact h3
  ·rw[ha]at h1;cases h1
def kn(bs:Array Nat)(i j:Nat):Bool:=(bs.getD i 0).testBit j
def ordered(bs:Array Nat)(i j:Nat):Bool:=Nat.beq j i||(bif Nat.blt j i then kn bs i j else kn bs j i)
def qL(bs:Array Nat)(i:Nat)(n:Nat)(w:Nat→Bool):Bool:=(List.range n).all fun j=>!w j||ordered bs i j
def en(ds:List (Option Tmp))(j:Nat):Option Tmp:=(ds[j]?).bind fun x=>x
def isDst(ds:List (Option Tmp))(x:Nat)(j:Nat):Bool:=match en ds j with|some y=>Nat.beq y x|none=>false
def mR(wr:List (List Nat))(r:Nat)(j:Nat):Bool:=((wr[j]?).getD []).contains r
def xI(bs:Array Nat)(ds:List (Option Tmp))(i:Nat)(S:SL):SL:=
 (List.range ds.length).foldl (fun E j=>match en ds j with
  |some x=>if ordered bs i j then E else eF E x .any
  |none=>E) S
def HW(bs:Array Nat)(ds:List (Option Tmp))(i:Nat)(M:List CE):List CE:=M.filter fun e=>qL bs i ds.length (isDst ds e.x)
def rV(bs:Array Nat)(wr:List (List Nat))(i:Nat)(R:List AR):List AR:=
 (List.range R.length).map fun r=>if qL bs i wr.length (mR wr r)then(R[r]?).getD .gn else .gn
def ko(out:Out):List Nat:=
 match out with
 |.yes _ u=>u.map (·.1)
 |_=> []
def AQ:List Nat→List Nat→Bool
 |[],[]=>true
 |a::l,b::m=>Nat.beq a b&&AQ l m
 |_,_=>false
def Fp(bs:Array Nat)(i:Nat)(g:Option (Nat×Bool)):Bool:=
 match g with
 |none=>true
 |some (j,_)=>Nat.blt j i&&kn bs i j
def JH(a:Option AR):Bool:=
 match a with
 |some .bu=>true
 |_=>false
def AS(P:Program)(L:Env)(F:List Fact)(ops:Array Oper)(bs:Array Nat)(ds:List (Option Tmp))(wr:List (List Nat)):List Oper→List Bool→Nat→Nat→RS→Option RS
 |[],_,_,_,rs=>some rs
 |o::os,nw,i,fi,rs=>
  let R:=rV bs wr i rs.R
  let id:=bif nw.headD false then fi else rs.R.length
  let out:=stepT P L F ops (xI bs ds i rs.S) (HW bs ds i rs.M) R id o
  if AQ (ko out) ((wr[i]?).getD [])&&((!nw.headD false||JH R[id]?)&&((ko out).all (fun r=>decide (r<rs.R.length)&&qL bs i wr.length (mR wr r))&&Fp bs i o.guard))then
   (match km rs o.dst out with
   |some dr=>AS P L F ops bs ds wr os nw.tail (i+1) (bif nw.headD false then fi+1 else fi) dr
   |none=>none)else none
structure D4 (P : Program) (L : Env) (F : List Fact) (ops : Array Oper) (bs : Array Nat) (ds : List (Option Tmp)) (wr : List (List Nat)) (i : Nat) (o : Oper) (rs dr : RS) (id : Nat) (out : Out) : Prop where
 eq:out=stepT P L F ops (xI bs ds i rs.S) (HW bs ds i rs.M) (rV bs wr i rs.R) id o
 free:JH (rV bs wr i rs.R)[id]?=true∨id=rs.R.length
 ids: ∀r,r∈ko out↔mR wr r i=true
 lt: ∀r∈ko out,r<rs.R.length∧qL bs i wr.length (mR wr r)=true
 guard:Fp bs i o.guard=true
 next:km rs o.dst out=some dr
theorem JI: ∀{l m:List Nat},AQ l m=true→l=m
 |[],[],_=>rfl
 |[],_::_,h=>by simp[AQ]at h
 |_::_,[],h=>by simp[AQ]at h
 |a::l,b::m,h=>by
  simp only[AQ,apP,aqi]at h
  rw[h.1,JI h.2]
theorem D5{ops:Array Oper}{bs:Array Nat}{ds:List (Option Tmp)}{wr:List (List Nat)}: ∀(os:List Oper) (nw:List Bool) (i id:Nat) (rs fin:RS),AS P L F ops bs ds wr os nw i id rs=some fin→
  ∃tr:Nat→RS,tr i=rs∧tr (i+os.length)=fin∧ ∀k o,os[k]?=some o→ ∃id out,D4 P L F ops bs ds wr (i+k) o (tr (i+k)) (tr (i+k+1)) id out
 |[],nw,i,id,rs,fin,h=>by
  obtain rfl:=apO h
  exact⟨fun _=>rs,rfl,rfl,fun k o h=>by simp at h⟩
 |o::os,nw,i,id,rs,fin,h=>by
  simp only[AS]at h
  split at h
  ·rename_i hc
   split at h
   ·rename_i dr hn
    obtain⟨tr,h1,h2,h3⟩:=D5 os _ _ _ _ _ h
    simp only[apP,aqe,aqC]at hc
    obtain⟨c1,c2,c3,c4⟩:=hc
    have e1:=JI c1
    refine⟨fun k=>if k=i then rs else tr k,by simp,?_,fun k o' jW=>?_⟩
    ·show(if i+(os.length+1)=i then rs else tr (i+(os.length+1)))=fin
     rw[if_neg (by omega),←h2]
     congr 1
     omega
    ·cases k with
     |zero=>
      simp only[aqY,aqy]at jW
      subst jW
      refine⟨bif nw.headD false then id else rs.R.length,stepT P L F ops (xI bs ds i rs.S) (HW bs ds i rs.M) (rV bs wr i rs.R) (bif nw.headD false then id else rs.R.length) o,?_⟩
      simp only[Nat.add_zero,if_true]
      rw[if_neg (by omega),h1]
      exact⟨rfl,c2.elim (fun e=>by rw[e];exact .inr rfl) .inl,fun r=>by rw[e1];unfold mR;simp,fun r hr=>by
       have:=ap1.1 c3 r hr
       simpa using this,c4,hn⟩
     |succ k=>
      simp only[aqM]at jW
      obtain⟨jV,out,hh⟩:=h3 k o' jW
      refine⟨jV,out,?_⟩
      show D4 P L F ops bs ds wr (i+(k+1)) o' (if i+(k+1)=i then rs else tr (i+(k+1))) (if i+(k+1)+1=i then rs else tr (i+(k+1)+1)) jV out
      rw[if_neg (by omega),if_neg (by omega),show i+(k+1)=i+1+k by omega]
      exact hh
   ·cases h
  ·cases h
theorem GK{bs:Array Nat}{i n:Nat}{w:Nat→Bool}(h:qL bs i n w=true){j:Nat}(hj:j<n)(hw:w j=true):j=i∨(j<i∧kn bs i j=true)∨(i<j∧kn bs j i=true):=by
 have:=ap1.1 h j (aqv.2 hj)
 simp only[hw,Bool.not_true,arG,ordered,aqe,aqi]at this
 rcases this with h|h
 ·exact .inl h
 ·by_cases hl:j<i
  ·have hb:Nat.blt j i=true:=by simpa[Nat.blt_eq]using hl
   rw[hb]at h
   exact .inr (.inl ⟨hl,h⟩)
  ·by_cases e:j=i
   ·exact .inl e
   ·have hb:Nat.blt j i=false:=by
     cases hb:Nat.blt j i with
     |false=>rfl
     |true=>exact absurd (by simpa[Nat.blt_eq]using hb) hl
    rw[hb]at h
    exact .inr (.inr ⟨by omega,h⟩)
theorem l6{ds:List (Option Tmp)}{x j:Nat}:isDst ds x j=true↔en ds j=some x:=by
 unfold isDst
 split
 ·rename_i y hy
  rw[hy]
  simp only[aqi]
  exact⟨fun h=>by rw[h],fun h=>apO h⟩
 ·rename_i hy
  rw[hy]
  simp
theorem GL(bs:Array Nat)(ds:List (Option Tmp))(i:Nat): ∀(l:List Nat) (S:SL),(l.foldl (fun E j=>match en ds j with
  |some x=>if ordered bs i j then E else eF E x .any
  |none=>E) S).length=S.length
 |[],S=>rfl
 |j::l,S=>by
  rw[arN,GL bs ds i l]
  split
  ·split
   ·rfl
   ·exact jK
  ·rfl
theorem GM(bs:Array Nat)(ds:List (Option Tmp))(i x:Nat): ∀(l:List Nat) (S:SL),(bN (l.foldl (fun E j=>match en ds j with
  |some x=>if ordered bs i j then E else eF E x .any
  |none=>E) S) x=bN S x∧(x<S.length→ ∀j∈l,en ds j=some x→ordered bs i j=true))∨bN (l.foldl (fun E j=>match en ds j with
  |some x=>if ordered bs i j then E else eF E x .any
  |none=>E) S) x=.any
 |[],S=>.inl ⟨rfl,fun _ j h=>by simp at h⟩
 |j::l,S=>by
  rw[arN]
  rcases GM bs ds i x l (match en ds j with
   |some x=>if ordered bs i j then S else eF S x .any
   |none=>S)with⟨h1,h2⟩|h
  ·rw[h1]
   have hlen:(match en ds j with
    |some x=>if ordered bs i j then S else eF S x .any
    |none=>S).length=S.length:=by
    split
    ·split
     ·rfl
     ·exact jK
    ·rfl
   by_cases hx:x<S.length∧en ds j=some x∧ordered bs i j=false
   ·obtain⟨a,b,c⟩:=hx
    rw[b]
    simp only[c]
    exact .inr (by simp only[aqo,if_false];rw[dL,if_pos ⟨rfl,a⟩])
   ·left
    refine⟨?_,fun hl k hk hd=>?_⟩
    ·split
     ·rename_i y hy
      split
      ·rfl
      ·rename_i ho
       rw[dL]
       split
       ·rename_i e
        exact absurd ⟨e.1▸e.2,by rw[hy,e.1],by simpa using ho⟩ hx
       ·rfl
     ·rfl
    ·rcases ap8.1 hk with rfl|hk
     ·cases ho:ordered bs i k with
      |true=>rfl
      |false=>exact absurd ⟨hl,hd,ho⟩ hx
     ·exact h2 (by rw[hlen];exact hl) k hk hd
  ·exact .inr h
theorem JJ(bs:Array Nat)(ds:List (Option Tmp))(i x:Nat)(S:SL):(bN (xI bs ds i S) x=bN S x∧(x<S.length→qL bs i ds.length (isDst ds x)=true))∨bN (xI bs ds i S) x=.any:=by
 rcases GM bs ds i x (List.range ds.length) S with⟨h1,h2⟩|h
 ·refine .inl ⟨h1,fun hl=>ap1.2 fun j hj=>?_⟩
  cases hd:isDst ds x j with
  |false=>rfl
  |true=>simpa using h2 hl j hj (l6.1 hd)
 ·exact .inr h
theorem Rg(bs:Array Nat)(wr:List (List Nat))(i r:Nat)(R:List AR){a:AR}(h:(rV bs wr i R)[r]?=some a):a=.gn∨(R[r]?=some a∧qL bs i wr.length (mR wr r)=true):=by
 unfold rV at h
 rw[apZ]at h
 have aO:r<R.length:=by
  rcases apQ r R.length with h'|h'
  ·exact h'
  ·rw[aql (by simpa using h')]at h;cases h
 rw[aqK aO]at h
 simp only[aqU,aqy]at h
 split at h
 ·rename_i hf
  obtain⟨b,hb⟩:=aC aO
  rw[hb]at h⊢
  exact .inr ⟨by rw[←h];rfl,hf⟩
 ·exact .inl h.symm
theorem Rh{ops:Array Oper}{o:Oper}{t:T}{d:Nat}{w:Bool}{G:List Fact}(h:stepT P L F ops S M R id o=.may t d w G): ∃j,o.guard=some (j,w)∧(ops[j]?).bind (·.dst)=some d:=by
 unfold stepT at h
 split at h
 ·split at h<;>cases h
 ·rename_i j want hg
  split at h
  ·rename_i d' hd
   split at h
   ·split at h
    ·split at h<;>cases h
    ·cases h
   ·cases h
   ·dsimp only at h
    split at h
    ·cases h;exact⟨j,hg,hd⟩
    ·cases h
   ·cases h
  ·cases h
theorem JK: ∀(u:List (Nat×AR)) (R:List AR),(∀p∈u,p.1<R.length)→(re R u).length=R.length
 |[],_,_=>rfl
 |(i,b)::u,R,h=>by
  have hi:i<R.length:=h (i,b) (by simp)
  have hl:(da R i b).length=R.length:=by rw[iE,if_neg (by omega)]
  show(re (da R i b) u).length=_
  rw[JK u _ (fun p hp=>by rw[hl];exact h p (by simp[hp])),hl]
theorem vo{x d:Nat}{G:List Fact}{w:Bool}{dst:Option Tmp}(h:dst≠some x):cc (lx M dst) x=cc M x∧cc (rf (lx M dst) dst d w G) x=cc M x:=by
 cases dst with
 |none=>exact⟨by rw[pd],by simp only[rf];rw[pd]⟩
 |some y=>
  have hy:x≠y:=fun e=>h (by rw[e])
  have h1:cc (lx M (some y)) x=cc M x:=by rw[tA];exact vp hy M
  refine⟨h1,?_⟩
  rw[←h1]
  simp only[rf,cc]
  rw[arw,Fq (Ne.symm hy)]
theorem xJ{x:Nat}{dst:Option Tmp}{e:CE}(he:e.x=x)(h:dst≠some x):e∈lx M dst↔e∈M:=by
 cases dst with
 |none=>rw[pd]
 |some y=>
  have hy:x≠y:=fun e=>h (by rw[e])
  rw[tA,aqW,he,Fq hy]
  simp
theorem iY{x:Nat}{e:CE}(he:e∈lx M (some x)):e.x≠x:=by
 rw[tA]at he
 exact wz (by simpa using(aqW.1 he).2)
theorem zs{rs dr:RS}{dst:Option Tmp}{out:Out}(h:km rs dst out=some dr):dr.S.length=rs.S.length∧ ∀x,dst≠some x→bN dr.S x=bN rs.S x∧cc dr.M x=cc rs.M x∧ ∀e,e.x=x→(e∈dr.M↔e∈rs.M):=by
 have hS: ∀t,(jM rs.S dst t).length=rs.S.length∧ ∀x,dst≠some x→bN (jM rs.S dst t) x=bN rs.S x:=by
  intro t
  cases dst with
  |none=>exact⟨rfl,fun x _=>rfl⟩
  |some y=>exact⟨jK,fun x hx=>by simp only[jM];rw[dL,if_neg];rintro⟨rfl,-⟩;exact hx rfl⟩
 unfold km at h
 split at h
 ·cases h
 ·obtain⟨-,rfl⟩:=aG h
  exact⟨(hS _).1,fun x hx=>⟨(hS _).2 x hx,(vo (d:=0) (G:=[]) (w:=true) hx).1,fun e he=>xJ he hx⟩⟩
 ·obtain⟨-,rfl⟩:=aG h
  refine⟨(hS _).1,fun x hx=>⟨(hS _).2 x hx,(vo hx).2,fun e he=>?_⟩⟩
  cases dst with
  |none=>exact xJ he hx
  |some y=>
   simp only[rf,ap8]
   rw[xJ he hx]
   constructor
   ·rintro(rfl|h)
    ·exact absurd (by simpa using he) fun e=>hx (by rw[e])
    ·exact h
   ·exact .inr
 ·obtain⟨-,rfl⟩:=aG h
  exact⟨(hS _).1,fun x hx=>⟨(hS _).2 x hx,(vo (d:=0) (G:=[]) (w:=true) hx).1,fun e he=>xJ he hx⟩⟩
theorem GN{rs dr:RS}{dst:Option Tmp}{out:Out}(h:km rs dst out=some dr)(hl: ∀r∈ko out,r<rs.R.length):dr.R.length=rs.R.length∧ ∀r,r∉ko out→dr.R[r]?=rs.R[r]?:=by
 unfold km at h
 split at h
 ·cases h
 ·rename_i t u
  obtain⟨hc,rfl⟩:=aG h
  simp only[apP]at hc
  have aO: ∀p∈u,p.1<rs.R.length:=fun p hp=>hl _ (aqd.2 ⟨p,hp,rfl⟩)
  exact⟨JK u rs.R aO,fun r hr=>(xH u rs.R r (fun p hp=>aqx (aO p hp)) (l5 hc.2.1)).2.1 fun a ha=>hr (aqd.2 ⟨_,ha,rfl⟩)⟩
 ·obtain⟨-,rfl⟩:=aG h
  exact⟨rfl,fun _ _=>rfl⟩
 ·obtain⟨-,rfl⟩:=aG h
  exact⟨rfl,fun _ _=>rfl⟩
structure ij (P : Program) (L : Env) (F : List Fact) (ops : Array Oper) (bs : Array Nat) (ds : List (Option Tmp)) (wr : List (List Nat)) (tr : Nat → RS) : Prop where
 nY:jE ops bs=true
 ZS:ds=ops.toList.map (·.dst)
 Vv:wr.length=ops.size
 one: ∀i j x,en ds i=some x→en ds j=some x→i=j
 step: ∀i o,ops[i]?=some o→ ∃id out,D4 P L F ops bs ds wr i o (tr i) (tr (i+1)) id out
 m0:(tr 0).M=[]
section
variable {ops : Array Oper} {bs : Array Nat} {ds : List (Option Tmp)} {wr : List (List Nat)} {tr : Nat → RS}
theorem ij.dst(h:ij P L F ops bs ds wr tr){i:Nat}{o:Oper}(ho:ops[i]?=some o):en ds i=o.dst:=by
 have:ops.toList[i]?=some o:=by simpa using ho
 rw[h.ZS]
 simp[en,this]
theorem ij.has(h:ij P L F ops bs ds wr tr){i:Nat}(hi:i<ops.size): ∃o,ops[i]?=some o:=⟨ops[i],by simp[hi]⟩
theorem ij.len(h:ij P L F ops bs ds wr tr): ∀(b:Nat),b≤ops.size→(tr b).S.length=(tr 0).S.length∧(tr b).R.length=(tr 0).R.length
 |0,_=>⟨rfl,rfl⟩
 |b+1,hb=>by
  obtain⟨o,ho⟩:=h.has (i:=b) (by omega)
  obtain⟨id,out,hs⟩:=h.step b o ho
  obtain⟨h1,h2⟩:=h.len b (by omega)
  exact⟨(zs hs.next).1.trans h1,(GN hs.next fun r hr=>(hs.lt r hr).1).1.trans h2⟩
theorem ij.OK(h:ij P L F ops bs ds wr tr){x a:Nat}: ∀(b:Nat),a≤b→b≤ops.size→(∀j,a≤j→j<b→isDst ds x j=false)→bN (tr b).S x=bN (tr a).S x∧cc (tr b).M x=cc (tr a).M x∧ ∀e,e.x=x→(e∈(tr b).M↔e∈(tr a).M)
 |0,JL,_,_=>by
  have e:a=0:=by omega
  subst e
  exact⟨rfl,rfl,fun _ _=>Iff.rfl⟩
 |b+1,JL,hb,hn=>by
  rcases apQ b a with aO|D3
  ·obtain rfl:a=b+1:=by omega
   exact⟨rfl,rfl,fun _ _=>Iff.rfl⟩
  obtain⟨o,ho⟩:=h.has (i:=b) (by omega)
  obtain⟨id,out,hs⟩:=h.step b o ho
  obtain⟨h1,h2,h3⟩:=h.OK (x:=x) (a:=a) b D3 (by omega) fun j p q=>hn j p (by omega)
  have hd:o.dst≠some x:=by
   intro e
   have:=hn b D3 (by omega)
   rw[l6.2 (by rw[h.dst ho,e])]at this
   cases this
  obtain⟨q1,q2,q3⟩:=(zs hs.next).2 x hd
  exact⟨q1.trans h1,q2.trans h2,fun e he=>(q3 e he).trans (h3 e he)⟩
theorem ij.OL(h:ij P L F ops bs ds wr tr){r a:Nat}: ∀(b:Nat),a≤b→b≤ops.size→(∀j,a≤j→j<b→mR wr r j=false)→(tr b).R[r]?=(tr a).R[r]?
 |0,JL,_,_=>by
  have e:a=0:=by omega
  subst e
  rfl
 |b+1,JL,hb,hn=>by
  rcases apQ b a with aO|D3
  ·obtain rfl:a=b+1:=by omega
   rfl
  obtain⟨o,ho⟩:=h.has (i:=b) (by omega)
  obtain⟨id,out,hs⟩:=h.step b o ho
  rw[←h.OL (r:=r) (a:=a) b D3 (by omega) fun j p q=>hn j p (by omega)]
  refine(GN hs.next fun r hr=>(hs.lt r hr).1).2 r fun hm=>?_
  have:=hn b D3 (by omega)
  rw[(hs.ids r).1 hm]at this
  cases this
theorem ij.entry(h:ij P L F ops bs ds wr tr): ∀(b:Nat),b≤ops.size→ ∀e∈(tr b).M,∃k j,k<b∧en ds k=some e.x∧en ds j=some e.d∧j<k∧kn bs k j=true
 |0,_,e,he=>by rw[h.m0]at he;simp at he
 |b+1,hb,e,he=>by
  obtain⟨o,ho⟩:=h.has (i:=b) (by omega)
  obtain⟨id,out,hs⟩:=h.step b o ho
  have eW:e∈(tr b).M→ ∃k j,k<b+1∧en ds k=some e.x∧en ds j=some e.d∧j<k∧kn bs k j=true:=fun hm=>by
   obtain⟨k,j,h1,h2⟩:=h.entry b (by omega) e hm
   exact⟨k,j,by omega,h2⟩
  by_cases hx:o.dst=some e.x
  ·have hn:=hs.next
   cases iO:out with
   |none=>rw[iO]at hn;simp[km]at hn
   |yes t u=>
    rw[iO]at hn
    obtain⟨-,e1⟩:=aG hn
    rw[←e1,hx]at he
    exact absurd rfl (iY he)
   |no=>
    rw[iO]at hn
    obtain⟨-,e1⟩:=aG hn
    rw[←e1,hx]at he
    exact absurd rfl (iY he)
   |may t d w G=>
    rw[iO]at hn
    obtain⟨-,e1⟩:=aG hn
    rw[←e1,hx]at he
    simp only[rf]at he
    rcases ap8.1 he with e2|he
    ·have Nd:=hs.eq
     rw[iO]at Nd
     obtain⟨j,hg,hd⟩:=Rh Nd.symm
     have F3:=hs.guard
     rw[hg]at F3
     simp only[Fp,apP]at F3
     have hjb:j<b:=by simpa[Nat.blt_eq]using F3.1
     obtain⟨oj,qK⟩:=h.has (i:=j) (by omega)
     refine⟨b,j,by omega,by rw[h.dst ho,hx],?_,hjb,F3.2⟩
     rw[qK]at hd
     rw[h.dst qK,e2]
     exact hd
    ·exact absurd rfl (iY he)
  ·exact eW ((((zs hs.next).2 e.x hx).2.2 e rfl).1 he)
structure zt (θ : List Int) (ops : Array Oper) (ds : List (Option Tmp)) (wr : List (List Nat)) (tr : Nat → RS) (listed : Array Bool) (s : List V) (rows : List Row) : Prop where
 Fs:(tr 0).S.length=s.length
 bO: ∀x b,b≤ops.size→(∀j,j<ops.size→isDst ds x j=true→(listed.getD j false=true↔j<b))→(cc (tr b).M x=none→Has θ (bN (tr b).S x) (bL s x))∧ ∀e∈(tr b).M,e.x=x→CE.Ok θ (tr b).S s e
 di:(tr 0).R.length=rows.length
 rows: ∀r b,b≤ops.size→(∀j,j<ops.size→mR wr r j=true→(listed.getD j false=true↔j<b))→ ∀a q,(tr b).R[r]?=some a→rows[r]?=some q→cX θ a q
theorem zt.cx(hD:ij P L F ops bs ds wr tr)(h0:θ[0]?=some 0)(hF:aM θ F){listed:Array Bool}(cm:listed.size=ops.size)(bZ:kj ops listed){i:Nat}{o:Oper}(ho:ops[i]?=some o)(hi:listed.getD i true=false)
  (jk: ∀e∈o.after,Region.binds .any e=true→listed.getD e.on false=true) (h:zt θ ops ds wr tr listed s rows):
  (∀j,j<ops.size→(j=i∨(j<i∧kn bs i j=true)∨(i<j∧kn bs j i=true))→(listed.getD j false=true↔j<i))∧uO θ F (xI bs ds i (tr i).S) (HW bs ds i (tr i).M) (rV bs wr i (tr i).R) s rows:=by
 have gq:=jL hD.nY
 have jP:i<ops.size:=(ap4.1 ho).1
 have Vw:listed.getD i false=false:=by rw[fI (by omega) false true];exact hi
 have split: ∀j,j<ops.size→(j=i∨(j<i∧kn bs i j=true)∨(i<j∧kn bs j i=true))→(listed.getD j false=true↔j<i):=by
  rintro j hj (rfl|⟨h1,h2⟩|⟨h1,h2⟩)
  ·rw[Vw];simp
  ·exact⟨fun _=>h1,fun _=>gh cm gq bZ i o ho jk j h1 h2⟩
  ·refine⟨fun hl=>?_,fun h=>by omega⟩
   obtain⟨oj,qK⟩:=hD.has hj
   have lR:listed.getD j true=true:=by rw[fI (by omega) true false];exact hl
   have:=gh cm gq bZ j oj qK (bZ j oj qK lR) i h1 h2
   rw[Vw]at this
   cases this
 have vY:ds.length=ops.size:=by rw[hD.ZS];simp
 have free: ∀{w:Nat→Bool},qL bs i ops.size w=true→ ∀j,j<ops.size→w j=true→(listed.getD j false=true↔j<i):=fun hf j hj hw=>split j hj (GK hf hj hw)
 obtain⟨l1,l2⟩:=hD.len i (by omega)
 refine⟨split,h0,hF,⟨?_,fun x hx=>?_,fun e he=>?_⟩,?_,fun r a q ha hq=>?_⟩
 ·unfold xI;rw[GL,l1];exact h.Fs
 ·rcases JJ bs ds i x (tr i).S with⟨h1,h2⟩|h1
  ·rcases apQ x (tr i).S.length with hl|hl
   ·have hf:=h2 hl
    rw[h1]
    refine(h.bO x i (by omega) (by rw[vY]at hf;exact free hf)).1 ?_
    cases hc:cc (tr i).M x with
    |none=>rfl
    |some e=>
     exfalso
     obtain⟨hm,hex⟩:=lg hc
     exact BK hx e (aqW.2 ⟨hm,by rw[hex];exact hf⟩) hex
   ·rw[h1,kK hl];exact .any
  ·rw[h1];exact .any
 ·obtain⟨hm,hf⟩:=aqW.1 he
  rw[vY]at hf
  have:=(h.bO e.x i (by omega) (free hf)).2 e hm rfl
  unfold CE.Ok at this⊢
  rcases JJ bs ds i e.x (tr i).S with⟨h1,-⟩|h1
  ·rw[h1];exact this
  ·rw[h1];exact this.imp (fun⟨a,_,c⟩=>⟨a,.any,c⟩) id
 ·unfold rV;simp[l2,h.di]
 ·rcases Rg bs wr i r (tr i).R ha with rfl|⟨h1,h2⟩
  ·exact trivial
  ·rw[hD.Vv]at h2
   exact h.rows r i (by omega) (free h2) a q h1 hq
theorem zt.next(hD:ij P L F ops bs ds wr tr){listed:Array Bool}(cm:listed.size=ops.size)(bZ:kj ops listed){i:Nat}{o:Oper}(ho:ops[i]?=some o)(hi:listed.getD i true=false)(jk: ∀e∈o.after,Region.binds .any e=true→listed.getD e.on false=true)
  (wC: ∀j,j<ops.size→(j=i∨(j<i∧kn bs i j=true)∨(i<j∧kn bs j i=true))→(listed.getD j false=true↔j<i))
  (h:zt θ ops ds wr tr listed s rows) {id:Nat} {out:Out} (hs:D4 P L F ops bs ds wr i o (tr i) (tr (i+1)) id out) {v:V} {ad:List Row} {u:List (Nat×AR)}
  (q9: ∀x,o.dst=some x→(cc (tr (i+1)).M x=none→Has θ (bN (tr (i+1)).S x) (bL (aD s o.dst v) x))∧ ∀e∈(tr (i+1)).M,e.x=x→CE.Ok θ (tr (i+1)).S (aD s o.dst v) e)
  (hu:uF θ rows ad u) (tB:u.map (·.1)=ko out) (hR: ∀r a,(r,a)∈u→(tr (i+1)).R[r]?=some a):zt θ ops ds wr tr (listed.setIfInBounds i true) (aD s o.dst v) ad:=by
 have gq:=jL hD.nY
 have jP:i<ops.size:=(ap4.1 ho).1
 have Vw:listed.getD i false=false:=by rw[fI (by omega) false true];exact hi
 have Ft: ∀j,i≠j→(listed.setIfInBounds i true).getD j false=listed.getD j false:=fun j hj=>getD_set_ne false hj
 have Vx:(listed.setIfInBounds i true).getD i false=true:=ib false (by omega)
 obtain⟨l1,l2⟩:=hD.len i (by omega)
 refine⟨?_,fun x b hb hw=>?_,?_,fun r b hb hw a q ha hq=>?_⟩
 ·rw[h.Fs]
  cases o.dst with
  |none=>rfl
  |some d=>simp only[aD];rw[lf,arO]
 ·by_cases hx:o.dst=some x
  ·have hxi:isDst ds x i=true:=l6.2 (by rw[hD.dst ho,hx])
   have Ri:i<b:=((hw i jP hxi).1 Vx)
   have dT: ∀j,i+1≤j→j<b→isDst ds x j=false:=by
    intro j h1 h2
    cases hd:isDst ds x j with
    |false=>rfl
    |true=>have:=hD.one i j x (l6.1 hxi) (l6.1 hd);omega
   obtain⟨q1,q2,q3⟩:=hD.OK (x:=x) (a:=i+1) b Ri hb dT
   obtain⟨n1,n2⟩:=q9 x hx
   refine⟨fun hf=>by rw[q1];exact n1 (by rw[←q2];exact hf),fun e he hex=>?_⟩
   have:=n2 e ((q3 e hex).1 he) hex
   unfold CE.Ok at this⊢
   rw[hex]at this⊢
   rw[q1]
   exact this
  ·have rA: ∀j,j<ops.size→isDst ds x j=true→(listed.getD j false=true↔j<b):=fun j hj hd=>by
    have bw:i≠j:=by
     rintro rfl
     exact hx (by rw[←hD.dst ho];exact l6.1 hd)
    rw[←Ft j bw]
    exact hw j hj hd
   obtain⟨n1,n2⟩:=h.bO x b hb rA
   have same: ∀y,o.dst≠some y→bL (aD s o.dst v) y=bL s y:=fun y hy=>by
    cases hd:o.dst with
    |none=>rfl
    |some d=>simp only[aD];rw[iF,if_neg];rintro⟨rfl,-⟩;exact hy hd
   refine⟨fun hf=>by rw[same x hx];exact n1 hf,fun e he hex=>?_⟩
   have:=n2 e he hex
   have hd:o.dst≠some e.d:=by
    intro hd
    obtain⟨k,j,k1,k2,k3,k4,k5⟩:=hD.entry b hb e he
    have hji:j=i:=hD.one j i e.d k3 (by rw[hD.dst ho,hd])
    subst hji
    have hkn:k<ops.size:=by omega
    have hkl:listed.getD k false=true:=(rA k hkn (l6.2 (by rw[k2,hex]))).2 k1
    obtain⟨ok,dN⟩:=hD.has hkn
    have lR:listed.getD k true=true:=by rw[fI (by omega) true false];exact hkl
    have:=gh cm gq bZ k ok dN (bZ k ok dN lR) j k4 k5
    rw[Vw]at this
    cases this
   unfold CE.Ok at this⊢
   rw[same e.d hd,hex,same x hx]
   rw[hex]at this
   exact this
 ·have key: ∀(j:Nat),(rows[j]?).isSome=(ad[j]?).isSome:=by
   intro j
   by_cases hj: ∃a,(j,a)∈u
   ·obtain⟨a,ha⟩:=hj
    obtain⟨q,hq,-⟩:=hu.new j a ha
    have aO:=(hs.lt j (by rw[←tB];exact aqd.2 ⟨_,ha,rfl⟩)).1
    rw[hq,ap5 (by rw[←h.di];omega)]
    rfl
   ·rw[hu.fg j fun a ha=>hj ⟨a,ha⟩]
  rw[h.di]
  exact BJ key
 ·by_cases hr:r∈ko out
  ·have fR:=(hs.ids r).1 hr
   have Ri:i<b:=(hw i jP fR).1 Vx
   have HX:=(hs.lt r hr).2
   rw[hD.Vv]at HX
   have dT: ∀j,i+1≤j→j<b→mR wr r j=false:=by
    intro j h1 h2
    cases hd:mR wr r j with
    |false=>rfl
    |true=>
     exfalso
     have hj:j<ops.size:=by omega
     have hl:=(hw j hj hd).2 h2
     rw[Ft j (by omega)]at hl
     have:=(wC j hj (GK HX hj hd)).1 hl
     omega
   rw[hD.OL (r:=r) (a:=i+1) b Ri hb dT]at ha
   rw[←tB]at hr
   obtain⟨⟨r',a'⟩,hm,rfl⟩:=aqd.1 hr
   rw[hR r' a' hm]at ha
   obtain rfl:=apO ha
   obtain⟨q',gi,dN⟩:=hu.new r' a' hm
   rw[hq]at gi
   obtain rfl:=apO gi
   exact dN
  ·have fR:mR wr r i=false:=by
    cases hd:mR wr r i with
    |false=>rfl
    |true=>exact absurd ((hs.ids r).2 hd) hr
   have rA: ∀j,j<ops.size→mR wr r j=true→(listed.getD j false=true↔j<b):=fun j hj hd=>by
    have bw:i≠j:=by rintro rfl;rw[fR]at hd;cases hd
    rw[←Ft j bw]
    exact hw j hj hd
   rw[hu.fg r fun a ha=>hr (by rw[←tB];exact aqd.2 ⟨_,ha,rfl⟩)]at hq
   exact h.rows r b hb rA a q ha hq
end
end
end
end Go.Ck
set_option linter.unusedSectionVars false
namespace Go.Ck
noncomputable section
open Go.VS
variable [eb]
variable {rd : Option Nat} {b0 : Nat}
section
variable {P : Program} {L : Env} {θ : List Int} {F : List Fact} {S E : SL} {M : List CE} {R : List AR} {id : Nat} {s : List V} {rows : List Row} {ops : Array Oper} {bs : Array Nat} {ds : List (Option Tmp)} {wr : List (List Nat)} {tr : Nat → RS}
theorem Rj(hc:jE ops bs=true){listed:Array Bool}(cm:listed.size=ops.size)(h:Region.ready .any ops listed=[]): ∀j,j<ops.size→listed.getD j false=true:=by
 have gq:=jL hc
 intro j
 induction j using Nat.strongRecOn with
 |_ j ih=>
  intro hj
  cases hv:listed.getD j false with
  |true=>rfl
  |false=>
   exfalso
   have qK:ops[j]?=some (ops[j]'hj):=aqs hj
   have:j∈Region.ready .any ops listed:=by
    refine mem_ready.2 ⟨by rw[fI (by omega) true false];exact hv,_,qK,fun e he JD=>?_⟩
    have aO:=gq.lt j _ e qK he JD
    exact ih e.on aO (by omega)
   rw[h]at this
   cases this
theorem OM{Q:Exit→KS}{K:KS}{c:Ctx}(go:iL P c)(hL:Env.Ok P L)(hD:ij P L F ops bs ds wr tr)(h0:θ[0]?=some 0)(hF:aM θ F)(hK: ∀s rows,uO θ F (tr ops.size).S (tr ops.size).M (tr ops.size).R s rows→K s rows):
  ∀(fuel:Nat) (r:List Nat) (listed:Array Bool) (a:Act) (w:World) (s:List V) (rows:List Row),r.length≤fuel→listed.size=ops.size→(∀j,j∈r↔listed.getD j true=false)→r.Nodup→kj ops listed→gj c s rows a w→zt θ ops ds wr tr listed s rows→
   wpAnyIn (fw rd) 0 P .any ops (lift c (cZ K Q)) fuel listed a w:=by
 have done: ∀(listed:Array Bool) (a:Act) (w:World) (s:List V) (rows:List Row),listed.size=ops.size→Region.ready .any ops listed=[]→gj c s rows a w→zt θ ops ds wr tr listed s rows→lift c (cZ K Q) .normal a w:=by
  intro listed a w s rows cm hr hc h
  have hall:=Rj hD.nY cm hr
  have Fu: ∀{w:Nat→Bool} j,j<ops.size→w j=true→(listed.getD j false=true↔j<ops.size):=fun j hj _=>⟨fun _=>hj,fun _=>hall j hj⟩
  obtain⟨l1,l2⟩:=hD.len ops.size (aqf _)
  refine⟨s,rows,hK s rows ⟨h0,hF,⟨by rw[l1];exact h.Fs,fun x hx=>(h.bO x ops.size (aqf _) (fun j hj hw=>Fu (w:=isDst ds x) j hj hw)).1 hx,fun e he=>(h.bO e.x ops.size (aqf _) (fun j hj hw=>Fu (w:=isDst ds e.x) j hj hw)).2 e he rfl⟩,by rw[l2];exact h.di,fun r a q ha hq=>h.rows r ops.size (aqf _) (fun j hj hw=>Fu (w:=mR wr r) j hj hw) a q ha hq⟩,hc⟩
 intro fuel
 induction fuel with
 |zero=>
  intro r listed a w s rows hf cm hr j4 bZ hc h
  obtain rfl:=apW (Nat.le_zero.1 hf)
  have hn:Region.ready .any ops listed=[]:=aqZ.2 fun j hj=>absurd ((hr j).2 (mem_ready.1 hj).1) (by simp)
  exact⟨hn,done listed a w s rows cm hn hc h⟩
 |succ fuel ih=>
  intro r listed a w s rows hf cm hr j4 bZ hc h
  refine⟨fun tx=>done listed a w s rows cm tx hc h,fun i hi=>?_⟩
  obtain⟨jf,o,ho,jk⟩:=mem_ready.1 hi
  obtain⟨wC,zu⟩:=h.cx hD h0 hF cm bZ ho jf jk
  obtain⟨id,out,hs⟩:=hD.step i o ho
  have JM:i∈r:=(hr i).2 jf
  have jP:i<ops.size:=(ap4.1 ho).1
  obtain⟨l1,l2⟩:=hD.len i (by omega)
  have HX:dB rows id:=by
   rcases hs.free with h1|h1
   ·right
    cases hm:(rV bs wr i (tr i).R)[id]? with
    |none=>rw[hm]at h1;cases h1
    |some x=>
     rw[hm]at h1
     cases x<;>simp[JH]at h1
     obtain⟨q,hq⟩:=aC (l:=rows) (i:=id) (by rw[←zu.di];exact(apN.1 hm).1)
     have:=zu.rows id _ q hm hq
     rw[hq,show q=.bu from this]
   ·left;rw[h1,l2,h.di]
  have rz:=JN (P:=P) hL (ops:=ops) (o:=o) zu HX
  rw[←hs.eq]at rz
  have next: ∀{s':List V} {ad:List Row} {a':Act} {w':World},gj c s' ad a' w'→zt θ ops ds wr tr (listed.setIfInBounds i true) s' ad→wpAnyIn (fw rd) 0 P .any ops (lift c (cZ K Q)) fuel (listed.setIfInBounds i true) a' w':=by
   intro s' ad a' w' c8 h'
   refine ih (r.erase i) _ a' w' s' ad (by rw[List.length_erase_of_mem JM];omega) (by simpa using cm) (fun j=>?_) (j4.erase i) (pb bZ ho jk) c8 h'
   rw[j4.mem_erase_iff]
   by_cases kl:i=j
   ·subst kl
    rw[ib true (cw jf)]
    simp
   ·rw[getD_set_ne true kl,←hr j]
    exact⟨fun h=>h.2,fun h=>⟨fun e=>kl e.symm,h⟩⟩
  obtain⟨ro,ρ,g,GO⟩:=hc
  unfold wpOpIn
  simp only[ho]
  have hn:=hs.next
  have acb:=fun r hr=>(hs.lt r hr).1
  cases iO:out with
  |none=>rw[iO]at hn;simp[km]at hn
  |yes t u=>
   rw[iO]at rz hn
   obtain⟨hg,tu⟩:=rz
   rw[if_pos (gG (o:=o) GO hg)]
   obtain⟨bC,e1⟩:=aG hn
   simp only[apP]at bC
   have tB:u.map (·.1)=ko out:=by rw[iO];rfl
   have aO: ∀p∈u,p.1≤(tr i).R.length:=fun p hp=>aqx (acb _ (by rw[←tB];exact aqd.2 ⟨p,hp,rfl⟩))
   refine CI (c:=c) (k:=fun v ad=>Has θ t v∧uF θ rows ad u) go GO g (tu _ fun v ad h1 h2=>⟨h1,h2⟩) ?_
   intro v w' r' ad aY ρ' ⟨hv,hu⟩ h2 h3
   refine next ⟨aY,ρ',h2,h3⟩ (h.next hD cm bZ ho jf jk wC hs (u:=u) (fun x hx=>?_) hu tB fun r a ha=>?_)
   ·rw[←e1,hx]
    refine⟨fun _=>?_,fun e he hex=>absurd hex (iY he)⟩
    simp only[jM,aD]
    rw[dL,iF]
    by_cases hl:x<(tr i).S.length
    ·rw[if_pos ⟨rfl,hl⟩,if_pos ⟨rfl,by rw[←h.Fs,←l1];exact hl⟩];exact hv
    ·rw[if_neg (fun e=>hl e.2),kK (ar1 hl)];exact .any
   ·rw[←e1]
    exact(xH u (tr i).R r aO (l5 bC.2.1)).1 a ha
  |may t d wb G=>
   rw[iO]at rz hn
   obtain⟨bC,e1⟩:=aG hn
   simp only[apP]at bC
   have hd: ∀x,o.dst=some x→x<(tr i).S.length∧x≠d:=fun x hx=>by
    have:=bC.2
    rw[hx]at this
    simp only[OJ,apP,decide_eq_true_eq,aqC]at this
    exact⟨this.1,wz this.2⟩
   have tB:([]:List (Nat×AR)).map (·.1)=ko out:=by rw[iO];rfl
   have fin: ∀{v:V},((bL s d=.bool wb∧Has θ t v∧aM θ G)∨(bL s d≠.bool wb∧v=dS))→ ∀x,o.dst=some x→(cc (tr (i+1)).M x=none→Has θ (bN (tr (i+1)).S x) (bL (aD s o.dst v) x))∧ ∀e∈(tr (i+1)).M,e.x=x→CE.Ok θ (tr (i+1)).S (aD s o.dst v) e:=by
    intro v hv x hx
    obtain⟨hl,Nf⟩:=hd x hx
    rw[←e1,hx]
    refine⟨fun hf=>?_,fun e he hex=>?_⟩
    ·exfalso
     simp[rf,cc]at hf
    ·simp only[rf]at he
     rcases ap8.1 he with rfl|he
     ·unfold CE.Ok
      simp only[jM,aD]
      rw[dL,iF,iF,if_neg (fun e=>Nf e.1),if_pos ⟨rfl,hl⟩,if_pos ⟨rfl,by rw[←h.Fs,←l1];exact hl⟩]
      rcases hv with⟨a,b,c⟩|⟨a,b⟩
      ·exact .inl ⟨a,b,c⟩
      ·exact .inr ⟨a,b⟩
     ·exact absurd hex (iY he)
   rcases rz with⟨hg,h1,h3,tu⟩|⟨hg,h1⟩
   ·rw[if_pos (gG (o:=o) GO hg)]
    refine CI (c:=c) (k:=fun v ad=>Has θ t v∧uF θ rows ad []) go GO g (tu _ fun v ad h1 h2=>⟨h1,h2⟩) ?_
    intro v w' r' ad aY ρ' ⟨hv,hu⟩ h4 h5
    exact next ⟨aY,ρ',h4,h5⟩ (h.next hD cm bZ ho jf jk wC hs (u:=[]) (fin (.inl ⟨h1,hv,h3⟩)) hu tB fun r a ha=>by simp at ha)
   ·rw[if_neg (by simp[gG (o:=o) GO hg])]
    exact⟨fun _ _=>trivial,next ⟨ro,ρ,g,GO.put .val o.dst⟩ (h.next hD cm bZ ho jf jk wC hs (u:=[]) (fin (.inr ⟨h1,rfl⟩)) ld tB fun r a ha=>by simp at ha)⟩
  |no=>
   rw[iO]at rz hn
   obtain⟨bC,e1⟩:=aG hn
   have tB:([]:List (Nat×AR)).map (·.1)=ko out:=by rw[iO];rfl
   rw[if_neg (by simp[gG (o:=o) GO rz])]
   refine⟨fun _ _=>trivial,next ⟨ro,ρ,g,GO.put .val o.dst⟩ (h.next hD cm bZ ho jf jk wC hs (u:=[]) (fun x hx=>?_) ld tB fun r a ha=>by simp at ha)⟩
   rw[←e1,hx]
   refine⟨fun _=>?_,fun e he hex=>absurd hex (iY he)⟩
   simp only[jM,aD]
   rw[dL,iF]
   by_cases hl:x<(tr i).S.length
   ·rw[if_pos ⟨rfl,hl⟩,if_pos ⟨rfl,by rw[←h.Fs,←l1];exact hl⟩];exact .undef
   ·rw[if_neg (fun e=>hl e.2),kK (ar1 hl)];exact .any
def nR:IV→Bool
 |.aH _ _=>true
 |.sum i j=>nR i&&nR j
 |_=>false
def ll:IV→IV→Bool
 |.aH g c,.aH h d=>Nat.beq g h&&decide (c=d)
 |.sum i j,.sum i' j'=>ll i i'&&ll j j'
 |_,_=>false
theorem AT: ∀{i j:IV},ll i j=true→i=j
 |.aH g c,.aH h d,e=>by simp only[ll,apP,aqi,decide_eq_true_eq]at e;rw[e.1,e.2]
 |.sum i j,.sum i' j',e=>by simp only[ll,apP]at e;rw[AT e.1,AT e.2]
 |.aH _ _,.aR _ _,e=>by simp[ll]at e
 |.aH _ _,.top,e=>by simp[ll]at e
 |.aH _ _,.sum _ _,e=>by simp[ll]at e
 |.aH _ _,.lQ _ _ _,e=>by simp[ll]at e
 |.sum _ _,.lQ _ _ _,e=>by simp[ll]at e
 |.lQ _ _ _,_,e=>by simp[ll]at e
 |.sum _ _,.aH _ _,e=>by simp[ll]at e
 |.sum _ _,.aR _ _,e=>by simp[ll]at e
 |.sum _ _,.top,e=>by simp[ll]at e
 |.aR _ _,_,e=>by simp[ll]at e
 |.top,_,e=>by simp[ll]at e
theorem D6: ∀{i:IV} {a b:Int},nR i=true→i.Has θ a→i.Has θ b→a=b
 |.aH g c,a,b,_,⟨x,h1,h2⟩,⟨y,h3,h4⟩=>by rw[h1]at h3;obtain rfl:=apO h3;omega
 |.sum i j,a,b,hd,⟨x,y,h1,h2,h3⟩,⟨x',y',h4,h5,h6⟩=>by
  simp only[nR,apP]at hd
  have:=D6 hd.1 h1 h4
  have:=D6 hd.2 h2 h5
  omega
 |.aR _ _,_,_,hd,_,_=>by simp[nR]at hd
 |.top,_,_,hd,_,_=>by simp[nR]at hd
 |.lQ _ _ _,_,_,hd,_,_=>by simp[nR]at hd
abbrev rh:=List (IV×Nat)
def kp(θ:List Int)(mm:rh):Prop:= ∀p∈mm,nR p.1=true∧ ∃x,θ[p.2]?=some x∧p.1.Has θ x
theorem kp.pre{z:List Int}{mm:rh}(h:kp θ mm):kp (θ++z) mm:=fun p hp=>by
 obtain⟨h1,x,h2,h3⟩:=h p hp
 exact⟨h1,x,iI h2,h3.pre⟩
def uP(mm:rh)(i:IV)(len:Bool)(S:St):IV×St×rh:=
 match(if nR i then mm.find? fun p=>ll p.1 i else none)with
 |some p=>(.aH p.2 0,S,mm)
 |none=>(.aH S.ng 0,S.fresh (DN S.F S.ng i++bif len&&!fq (some 0) (i.lo S.F)then[⟨0,1,S.ng,0⟩]else[]),if nR i then(i,S.ng)::mm else mm)
def dR(mm:rh)(i:IV)(len:Bool)(S:St):IV×St×rh:=
 match i with
 |.aH g c=>(.aH g c,S,mm)
 |i=>uP mm i len S
theorem Ua{S':St}(h:Ok θ S' [] []){mm:rh}(hm:kp θ mm){i:IV}{n:Int}{len:Bool}(hn:i.Has θ n)(hl:len=true→0≤n): ∃z,Ok (θ++z) (dR mm i len S').2.1 [] []∧(dR mm i len S').1.Has (θ++z) n∧kp (θ++z) (dR mm i len S').2.2∧(dR mm i len S').2.1.R=S'.R∧(dR mm i len S').2.1.S=S'.S:=by
 have key: ∃z,Ok (θ++z) (uP mm i len S').2.1 [] []∧(uP mm i len S').1.Has (θ++z) n∧kp (θ++z) (uP mm i len S').2.2∧(uP mm i len S').2.1.R=S'.R∧(uP mm i len S').2.1.S=S'.S:=by
  unfold uP
  split
  ·rename_i p hp
   split at hp
   ·rename_i hd
    have e:=AT (by simpa using List.find?_some hp)
    obtain⟨h1,x,h2,h3⟩:=hm p (List.mem_of_find?_eq_some hp)
    rw[e]at h3
    obtain rfl:=D6 hd h3 hn
    exact⟨[],by simpa using h,⟨x,by simpa using h2,by omega⟩,by simpa using hm,rfl,rfl⟩
   ·cases hp
  ·have hG:aM (θ++[n]) (bif len&&!fq (some 0) (i.lo S'.F)then[⟨0,1,S'.ng,0⟩]else[]):=by
    cases hlen:(len&&!fq (some 0) (i.lo S'.F))with
    |true=>
     have hl:=fun(_:len=true)=>hl (by simp only[apP]at hlen;exact hlen.1)
     have hl:0≤n:=hl (by simp only[apP]at hlen;exact hlen.1)
     exact p8 ⟨0,n,iI h.zero,h.last _,by simpa using hl⟩
    |false=>exact cr
   have hO:Ok (θ++[n]) (S'.fresh (DN S'.F S'.ng i++bif len&&!fq (some 0) (i.lo S'.F)then[⟨0,1,S'.ng,0⟩]else[])) [] []:=h.fresh n (eE (M8 h.zero h.facts ⟨_,rfl⟩ (h.last n) i _ _ n 0 hn (by omega) (fun x hx=>by simp at hx;omega) (fun x hx=>by simp at hx;omega)) hG)
   refine⟨[n],hO,⟨n,h.last n,by omega⟩,?_,rfl,rfl⟩
   show kp (θ++[n]) (if nR i then(i,S'.ng)::mm else mm)
   split
   ·rename_i hd
    intro p hp
    rcases ap8.1 hp with rfl|hp
    ·exact⟨hd,n,h.last n,hn.pre⟩
    ·exact hm.pre p hp
   ·exact hm.pre
 cases i with
 |aH g c=>exact⟨[],by simpa[dR]using h,by simpa[dR]using hn,by simpa[dR]using hm,rfl,rfl⟩
 |_=>exact key
def acd:IV→Bool
 |.sum (.aH _ c) (.aH _ d)=>!(decide (c=0)&&decide (d=0))
 |_=>false
def mE(d:Nat)(mm:rh)(S:St):St×rh:=
 bif S.S.ex then uG 10 (bN S.S d) fun t=>({S with S:=eF S.S d t},mm)else match bN S.S d with
 |.int k i=>(let r:=dR mm i false S;({r.2.1 with S:=eF S.S d (.int k r.1)},r.2.2))
 |.str i=>(let r:=dR mm i true S;({r.2.1 with S:=eF S.S d (.str r.1)},r.2.2))
 |.sl i e=>(let r:=dR mm i true S;({r.2.1 with S:=eF S.S d (.sl r.1 e)},r.2.2))
 |.av id i sz=>if nR i&&!acd i then(let r:=dR mm i true S
   ({r.2.1 with S:=eF S.S d (.av id r.1 sz),R:=(match S.R[id]? with
    |some (.arr n e)=>if ll n i then S.R.set id (.arr r.1 e)else S.R
    |_=>S.R)},r.2.2))else(S,mm)
 |_=>(S,mm)
theorem qc.pre{z:List Int}(h:qc θ S M s):qc (θ++z) S M s:=⟨h.len,fun x hx=>(h.pl x hx).pre,fun e he=>(h.ce e he).imp (fun⟨a,b,c⟩=>⟨a,b.pre,c.pre⟩) fun h=>h⟩
theorem rW(h:qc θ S M s){d:Nat}{t:T}(hd:cc M d=none)(ht:Has θ t (bL s d)):qc θ (eF S d t) M s:=by
 refine⟨by rw[jK];exact h.len,fun x hx=>?_,fun e he=>?_⟩
 ·rw[dL]
  split
  ·rename_i e;rw[←e.1];exact ht
  ·exact h.pl x hx
 ·have:=h.ce e he
  unfold CE.Ok at this⊢
  rw[dL,if_neg fun q=>BK hd e he q.1.symm]
  exact this
def JO(θ:List Int)(S:St)(M:List CE)(s:List V)(rows:List Row):Prop:=θ.length=S.ng∧uO θ S.F S.S M S.R s rows
theorem JP{S':St}(h:JO θ S' M s rows){mm:rh}(hm:kp θ mm){d:Nat}(hd:cc M d=none): ∃z,JO (θ++z) (mE d mm S').1 M s rows∧kp (θ++z) (mE d mm S').2:=by
 obtain⟨qM,h0,hF,hS,hl,hR⟩:=h
 have hv:=hS.pl d hd
 have base:Ok θ ⟨S'.ng,S'.F,.no,[]⟩ [] []:=⟨h0,qM,hF,M9,rfl,fun i a r h=>by simp at h⟩
 have same:(mE d mm S')=(S',mm)→ ∃z,JO (θ++z) (mE d mm S').1 M s rows∧kp (θ++z) (mE d mm S').2:=fun e=>by
  rw[e];exact⟨[],by rw[aqp];exact⟨qM,h0,hF,hS,hl,hR⟩,by simpa using hm⟩
 have om: ∀{i:IV} {len:Bool},(dR mm i len S').2.1.ng=(dR mm i len ⟨S'.ng,S'.F,.no,[]⟩).2.1.ng∧(dR mm i len S').2.1.F=(dR mm i len ⟨S'.ng,S'.F,.no,[]⟩).2.1.F∧(dR mm i len S').1=(dR mm i len ⟨S'.ng,S'.F,.no,[]⟩).1∧(dR mm i len S').2.2=(dR mm i len ⟨S'.ng,S'.F,.no,[]⟩).2.2∧(dR mm i len S').2.1.R=S'.R:=by
  intro i len
  cases i with
  |aH g c=>exact⟨rfl,rfl,rfl,rfl,rfl⟩
  |_=>
   simp only[dR,uP]
   split<;>exact⟨rfl,rfl,rfl,rfl,rfl⟩
 have fin: ∀{i:IV} {len:Bool} {n:Int} {t:T} {R':List AR},i.Has θ n→(len=true→0≤n)→(∀z,(dR mm i len S').1.Has (θ++z) n→Has (θ++z) t (bL s d))→
   (∀z,(dR mm i len S').1.Has (θ++z) n→R'.length=rows.length∧ ∀(i:Nat) a r,R'[i]?=some a→rows[i]?=some r→cX (θ++z) a r)→
   ∃z,JO (θ++z) {(dR mm i len S').2.1 with S:=eF S'.S d t,R:=R'} M s rows∧kp (θ++z) (dR mm i len S').2.2:=by
  intro i len n t R' hn Ng ht hr
  obtain⟨z,q1,q2,q3,-,-⟩:=Ua base hm (len:=len) hn Ng
  obtain⟨e1,e2,e3,e4,-⟩:=@om i len
  rw[←e3]at q2
  rw[←e4]at q3
  obtain⟨r1,r2⟩:=hr z q2
  exact⟨z,⟨by show(θ++z).length=(dR mm i len S').2.1.ng;rw[e1];exact q1.ng,q1.zero,by show aM (θ++z) (dR mm i len S').2.1.F;rw[e2];exact q1.facts,rW hS.pre hd (ht z q2),r1,r2⟩,q3⟩
 have xK: ∀{i:IV} {len:Bool} {n:Int} (z:List Int),(dR mm i len S').1.Has (θ++z) n→(dR mm i len S').2.1.R.length=rows.length∧ ∀(j:Nat) a r,(dR mm i len S').2.1.R[j]?=some a→rows[j]?=some r→cX (θ++z) a r:=by
  intro i len n z _
  rw[(@om i len).2.2.2.2]
  exact⟨hl,fun j a r p q=>(hR j a r p q).pre⟩
 cases hex:S'.S.ex with
 |true=>
  have:mE d mm S'=({S' with S:=eF S'.S d (bN S'.S d)},mm):=by unfold mE;rw[hex,DQ];rfl
  rw[this]
  exact⟨[],by rw[aqp];exact⟨qM,h0,hF,rW hS hd hv,hl,hR⟩,by simpa using hm⟩
 |false=>
 generalize hx:bL s d=v at hv
 unfold mE at same⊢
 rw[hex]at same⊢
 simp only[cond_false]at same⊢
 generalize ZT:bN S'.S d=t0 at hv same
 cases hv with
 |int p=>exact fin (t:=.int _ _) p (fun h=>by cases h) (fun z h=>by rw[hx];exact .int h) (fun z h=>xK z h)
 |str p=>exact fin (t:=.str _) p (fun _=>by omega) (fun z h=>by rw[hx];exact .str h) (fun z h=>xK z h)
 |kW p q=>exact fin (t:=.sl _ _) p (fun _=>by omega) (fun z h=>by rw[hx];exact .kW h q) (fun z h=>xK z h)
 |sl p q r t=>exact fin (t:=.sl _ _) p (fun _=>by omega) (fun z h=>by rw[hx];exact .sl h q r fun i t' v a b=>(t i t' v a b).pre) (fun z h=>xK z h)
 |@av id i n sz p=>
  dsimp only
  split
  ·rename_i ON
   replace ON:=(apP _ _▸ON:_∧_).1
   refine fin (t:=.av id _ sz) p (fun _=>by omega) (fun z h=>by rw[hx];exact .av h) (fun z h=>?_)
   split
   ·rename_i n0 e hRi
    split
    ·rename_i he
     have he:=AT he
     subst he
     refine⟨by simpa using hl,fun j a r hj hr=>?_⟩
     rw[aqB]at hj
     split at hj
     ·rename_i e1
      subst e1
      split at hj
      ·obtain rfl:=apO hj
       have:=hR id _ r hRi hr
       cases r with
       |live cs=>
        obtain⟨k1,⟨m,k2,k3⟩,k4⟩:=this
        have hmn:=D6 ON k2 p
        refine⟨k1,⟨m,by rw[hmn];exact h,k3⟩,fun i t v a b=>(k4 i t v a b).pre⟩
       |_=>exact this.elim
      ·cases hj
     ·exact(hR j a r hj hr).pre
    ·exact⟨hl,fun j a r p q=>(hR j a r p q).pre⟩
   ·exact⟨hl,fun j a r p q=>(hR j a r p q).pre⟩
  ·rename_i ON
   exact⟨[],by rw[aqp];exact⟨qM,h0,hF,hS,hl,hR⟩,by simpa using hm⟩
 |_=>exact same rfl
def AI:List (Option Tmp)→rh→St→St
 |[],_,S=>S
 |some d::l,mm,S=>AI l (mE d mm S).2 (mE d mm S).1
 |none::l,mm,S=>AI l mm S
theorem JO.ok{S':St}(h:JO θ S' [] s rows):Ok θ S' s rows:=⟨h.2.zero,h.1,h.2.facts,AU h.2.bO.len fun x=>h.2.bO.pl x rfl,h.2.di,h.2.rows⟩
theorem Ok.cxn{S':St}(h:Ok θ S' s rows):JO θ S' [] s rows:=⟨h.ng,h.zero,h.facts,⟨h.bO.1,fun x _=>h.bO.bN x,fun e he=>by simp at he⟩,h.di,h.rows⟩
theorem xp: ∀(l:List (Option Tmp)) (mm:rh) (S:St) (θ:List Int),kp θ mm→Ok θ S s rows→ ∃z,Ok (θ++z) (AI l mm S) s rows
 |[],mm,S,θ,_,h=>⟨[],by simpa[AI]using h⟩
 |some d::l,mm,S,θ,hm,h=>by
  obtain⟨z,h1,h2⟩:=JP h.cxn hm (d:=d) rfl
  obtain⟨z2,h3⟩:=xp l (mE d mm S).2 (mE d mm S).1 (θ++z) h2 h1.ok
  exact⟨z++z2,by rw[←ap3];exact h3⟩
 |none::l,mm,S,θ,hm,h=>xp l mm S θ hm h
theorem Fe:kp θ []:=fun p hp=>by simp at hp
def OO(st:Nat×List Fact)(dst:Option Tmp)(out:Out)(dr:RS):(Nat×List Fact)×RS:=
 match dst,out with
 |some d,.yes _ _=>(let r:=(mE d [] ⟨st.1,st.2,dr.S,dr.R⟩).1;((r.ng,r.F),⟨r.S,dr.M,r.R,dr.W⟩))
 |_,_=>(st,dr)
def Vy(rs:RS)(dst:Option Tmp)(out:Out):Option (Nat×T×T):=
 match dst,out with
 |some d,.yes _ _=>(match bN rs.S d with
  |.alt a b=>some (d,a,b)
  |_=>none)
 |_,_=>none
def ZU(L:Env)(st:Nat×List Fact)(rs:RS)(o:Oper):Option (List (T×St)):=
 match o.guard,rs.M,o.op with
 |none,[],.call q=>(match q.callee with
  |.value fo=>(match oT rs.S fo with
   |.fn f zw=>L.inl st rs.R f (q.args.toList.map (oT rs.S)++zw)
   |_=>none)
  |_=>none)
 |_,_,_=>none
def xm{α β:Type}(g:α→Option (List β)):List α→Option (List β)
 |[]=>some []
 |a::l=>(match g a,xm g l with
  |some x,some y=>some (x++y)
  |_,_=>none)
theorem td{α β:Type}{g:α→Option (List β)}: ∀{l:List α} {r:List β},xm g l=some r→ ∀a∈l,∃x,g a=some x∧ ∀b∈x,b∈r
 |[],_,_,a,ha=>by simp at ha
 |c::l,r,h,a,ha=>by
  simp only[xm]at h
  split at h
  ·rename_i x y hx hy
   obtain rfl:=apO h
   rcases ap8.1 ha with rfl|ha
   ·exact⟨x,hx,fun b hb=>aqw _ hb⟩
   ·obtain⟨x',h1,h2⟩:=td hy a ha
    exact⟨x',h1,fun b hb=>aq0 _ (h2 b hb)⟩
  ·cases h
def guardOf(ops:Array Oper)(rs:RS)(o:Oper):Option (Nat×List Fact×List Fact):=
 match(match o.guard with
  |some (i,_)=>(match ops[i]? with
   |some p=>p.dst
   |none=>none)
  |none=>none)with
 |some g=>(match cc rs.M g with
  |none=>(match bN rs.S g with
   |.bool none y n=>some (g,y,n)
   |_=>none)
  |some _=>none)
 |none=>none
def Nh(P:Program)(L:Env)(ops:Array Oper)(g:Nat×List Fact→RS→Option (List ((Nat×List Fact)×RS)))(o:Oper)(st:Nat×List Fact)(rs:RS):Option (List ((Nat×List Fact)×RS)):=
 match km rs o.dst (stepT P L st.2 ops rs.S rs.M rs.R rs.R.length o)with
 |some dr=>g st dr
 |none=>none
def oC(P:Program)(L:Env)(ops:Array Oper):List Oper→Nat×List Fact→RS→Option (List ((Nat×List Fact)×RS))
 |[],st,rs=>some [(st,rs)]
 |o::os,st,rs=>(let out:=stepT P L st.2 ops rs.S rs.M rs.R rs.R.length o
  match km rs o.dst out with
  |some dr=>bif dr.S.ex then oC P L ops os st dr else(match Vy dr o.dst out with
   |some (d,a,b)=>xm (fun t=>oC P L ops os st {dr with S:=eF dr.S d t}) [a,b]
   |none=>(let q:=OO st o.dst out dr;oC P L ops os q.1 q.2))
  |none=>(match guardOf ops rs o with
   |some (g,y,n)=>xm (fun c=>Nh P L ops (fun st rs=>oC P L ops os st rs) o (st.1,(bif c then y else n)++st.2) {rs with S:=eF rs.S g (.bool (some c) [] [])}) [true,false]
   |none=>(match ZU L st rs o with
   |some l=>xm (fun p=>oC P L ops os (p.2.ng,p.2.F) ⟨jM rs.S o.dst p.1,[],p.2.R,rs.W⟩) l
   |none=>none)))
theorem BL(hL:Env.Ok P L){K:KS}{o:Oper}{os:List Oper}{F:List Fact}{rs dr:RS}{θ:List Int}{s:List V}{rows:List Row}(hn:km rs o.dst (stepT P L F ops rs.S rs.M rs.R rs.R.length o)=some dr)(hO:uO θ F rs.S rs.M rs.R s rows)
  (go: ∀{s':List V} {ad:List Row},uO θ F dr.S dr.M dr.R s' ad→(∀d t u,o.dst=some d→stepT P L F ops rs.S rs.M rs.R rs.R.length o=.yes t u→cc dr.M d=none)→jF P ops os s' ad K):jF P ops (o::os) s rows K:=by
 have hs:=JN (P:=P) hL (ops:=ops) (o:=o) hO (id:=rs.R.length) (.inl hO.di)
 simp only[jF]
 generalize stepT P L F ops rs.S rs.M rs.R rs.R.length o=out at hn hs go
 unfold km at hn
 split at hn
 ·cases hn
 ·obtain⟨hc,rfl⟩:=aG hn
  simp only[apP]at hc
  refine .inl ⟨hs.1,?_⟩
  have:=hs.2 (fun v ad=>jF P ops os (aD s o.dst v) ad K) fun v ad hv hu=>?_
  ·rw[hO.di]at this;exact this
  ·obtain⟨r1,r2⟩:=Nc hO.di hO.rows hu hc.2.1 hc.2.2
   refine go ⟨hO.zero,hO.facts,AV hO.bO hc.1 hv,r1,r2⟩ fun d t u hd _=>?_
   show cc (lx rs.M o.dst) d=none
   cases hf:cc (lx rs.M o.dst) d with
   |none=>rfl
   |some e=>
    obtain⟨h1,h2⟩:=lg hf
    rw[hd]at h1
    exact absurd h2 (iY h1)
 ·obtain⟨hc,rfl⟩:=aG hn
  simp only[apP]at hc
  have hd: ∀x,o.dst=some x→x<rs.S.length∧o.dst≠some _:=fun x hx=>by
   have:=hc.2
   rw[hx]at this
   simp only[OJ,apP,decide_eq_true_eq,aqC]at this
   exact⟨this.1,fun e=>by rw[hx]at e;exact wz this.2 (apO e)⟩
  have bw:o.dst≠some _:=fun e=>(hd _ e).2 e
  rcases hs with⟨h1,h2,h3,h4⟩|⟨h1,h2⟩
  ·refine .inl ⟨h1,?_⟩
   have:=h4 (fun v ad=>jF P ops os (aD s o.dst v) ad K) fun v ad hv hu=>?_
   ·rw[hO.di]at this;exact this
   ·obtain⟨r1,r2⟩:=Nc hO.di hO.rows hu rfl rfl
    exact go ⟨hO.zero,hO.facts,Ni hO.bO hc.1 bw (fun x hx=>(hd x hx).1) (.inl ⟨h2,hv,h3⟩),r1,r2⟩ fun d t u _ e=>by cases e
  ·exact .inr ⟨h1,go ⟨hO.zero,hO.facts,Ni hO.bO hc.1 bw (fun x hx=>(hd x hx).1) (.inr ⟨h2,rfl⟩),hO.di,hO.rows⟩ fun d t u _ e=>by cases e⟩
 ·obtain⟨hc,rfl⟩:=aG hn
  exact .inr ⟨hs,go ⟨hO.zero,hO.facts,AV hO.bO hc .undef,hO.di,hO.rows⟩ fun d t u _ e=>by cases e⟩
theorem kQ(hL:Env.Ok P L){K:KS}: ∀(os:List Oper) (st:Nat×List Fact) (rs:RS) (CJ:List ((Nat×List Fact)×RS)) (θ:List Int) (s:List V) (rows:List Row),oC P L ops os st rs=some CJ→θ.length=st.1→uO θ st.2 rs.S rs.M rs.R s rows→
  (∀fin∈CJ,∀z s' ad,(θ++z).length=fin.1.1→uO (θ++z) fin.1.2 fin.2.S fin.2.M fin.2.R s' ad→K s' ad)→jF P ops os s rows K
 |[],st,rs,CJ,θ,s,rows,h,qM,hO,hK=>by
  obtain rfl:=apO h
  exact hK _ (aqn.2 rfl) [] s rows (by simpa using qM) (by simpa using hO)
 |o::os,st,rs,CJ,θ,s,rows,h,qM,hO,hK=>by
  simp only[oC]at h
  split at h
  ·rename_i dr hn
   have go: ∀{s':List V} {ad:List Row},uO θ st.2 dr.S dr.M dr.R s' ad→(∀d t u,o.dst=some d→stepT P L st.2 ops rs.S rs.M rs.R rs.R.length o=.yes t u→cc dr.M d=none)→jF P ops os s' ad K:=by
    intro s' ad hc hd
    generalize stepT P L st.2 ops rs.S rs.M rs.R rs.R.length o=out at hd h
    cases hx:dr.S.ex with
    |true=>
     rw[hx]at h
     exact kQ hL os st dr CJ θ s' ad h qM hc hK
    |false=>
    rw[hx]at h
    simp only[cond_false]at h
    split at h
    ·rename_i d a b ha
     have he:=td h
     unfold Vy at ha
     split at ha
     ·rename_i d' t u zx
      split at ha
      ·rename_i a' b' htg
       simp only[aqy,apX]at ha
       obtain⟨rfl,rfl,rfl⟩:=ha
       have hm:=hd _ _ _ zx rfl
       have hv:=hc.bO.pl _ hm
       rw[htg]at hv
       have Nj: ∀t∈ [a',b'],Has θ t (bL s' d')→jF P ops os s' ad K:=by
        intro t ht hv
        obtain⟨x,h1,h2⟩:=he t ht
        exact kQ hL os st _ x θ s' ad h1 qM {hc with bO:=rW hc.bO hm hv} fun fin hf=>hK fin (h2 _ hf)
       generalize bL s' d'=v at hv Nj
       cases hv with
       |tg hv=>exact Nj _ (by simp) hv
       |tj hv=>exact Nj _ (by simp) hv
      ·cases ha
     ·cases ha
    ·have same:OO st o.dst out dr=(st,dr)→jF P ops os s' ad K:=fun e=>by
      rw[e]at h
      exact kQ hL os st dr CJ θ s' ad h qM hc hK
     cases zx:o.dst with
     |none=>exact same (by rw[zx];rfl)
     |some d=>
      cases iO:out with
      |yes t u=>
       obtain⟨z,h1,-⟩:=JP (S':=⟨st.1,st.2,dr.S,dr.R⟩) (M:=dr.M) (d:=d) ⟨qM,hc⟩ Fe (hd d t u zx iO)
       rw[zx,iO]at h
       simp only[OO]at h
       exact kQ hL os _ _ CJ (θ++z) s' ad h h1.1 h1.2 fun fin hf z' s2 ar a b=>hK fin hf (z++z') s2 ar (by rw[←ap3];exact a) (by rw[←ap3];exact b)
      |none=>exact same (by rw[zx,iO];rfl)
      |may a b c d=>exact same (by rw[zx,iO];rfl)
      |no=>exact same (by rw[zx,iO];rfl)
   exact BL hL hn hO fun a b=>go a b
  ·split at h
   ·rename_i g y n hg
    have he:=td h
    unfold guardOf at hg
    split at hg
    ·rename_i g' ho
     split at hg
     ·rename_i hm
      split at hg
      ·rename_i y' n' ht
       simp only[aqy,apX]at hg
       obtain⟨rfl,rfl,rfl⟩:=hg
       have hv:=hO.bO.pl _ hm
       rw[ht]at hv
       have Nj: ∀c:Bool,bL s g'=.bool c→aM θ (bif c then y' else n')→jF P ops (o::os) s rows K:=by
        intro c hc hf
        obtain⟨x,h1,h2⟩:=he c (by cases c<;>simp)
        unfold Nh at h1
        split at h1
        ·rename_i dr hn
         refine BL (rs:={rs with S:=eF rs.S g' (.bool (some c) [] [])}) hL hn ⟨hO.zero,eE hf hO.facts,rW hO.bO hm ?_,hO.di,hO.rows⟩ fun a b=>kQ hL os _ _ x θ _ _ h1 qM a fun fin hf=>hK fin (h2 _ hf)
         rw[hc]
         exact .bool (fun d e=>apO e) (fun _=>cr) (fun _=>cr)
        ·cases h1
       generalize hw:bL s g'=w at hv
       cases hv with
       |@bool _ _ _ b p q r=>
        cases b with
        |true=>exact Nj true hw (q rfl)
        |false=>exact Nj false hw (r rfl)
      ·cases hg
     ·cases hg
    ·cases hg
   ·split at h
    ·rename_i l hl
     have he:=td h
     unfold ZU at hl
     split at hl
     ·rename_i q hg hM wx
      split at hl
      ·rename_i fo hq
       split at hl
       ·rename_i f zw hf
        rw[hM]at hO
        have zu:Cx θ st.2 rs.S rs.R s rows:=⟨hO.zero,hO.facts,AU hO.bO.len fun x=>hO.bO.pl x rfl,hO.di,hO.rows⟩
        have zy:=bJ zu fo
        rw[hf]at zy
        obtain⟨vs,Nk,dV⟩: ∃vs,ax s fo=.fn (.func f) vs∧bg θ zw vs:=by
         generalize ax s fo=vf at zy
         cases zy with
         |fn h1 h2=>exact⟨_,rfl,h1,h2⟩
        have uQ:=CK (JQ zu q.args.toList) dV
        have hA:=hL.inl st rs.R f _ l hl θ _ rows ⟨hO.zero,qM,hO.facts,M9,hO.di,hO.rows⟩ uQ
        simp only[jF]
        refine .inl ⟨by rw[hg];simp[ev],.inr ⟨q,fo,wx,hq,.inr ⟨f,vs,Nk,cO.mono hA ?_⟩⟩⟩
        rintro r ad ⟨p,hp,z,hz⟩
        obtain⟨x,h1,h2⟩:=he p hp
        have hr:Has (θ++z) p.1 r:=hz.bO.one
        have hinv:qc (θ++z) (jM rs.S o.dst p.1) [] (aD s o.dst r):=AV (M:=[]) hO.bO.pre (by cases o.dst<;>rfl) hr
        exact kQ hL os _ _ x (θ++z) _ ad h1 hz.ng ⟨hz.zero,hz.facts,hinv,hz.di,hz.rows⟩ fun fin hf z' s2 ar a b=>hK fin (h2 _ hf) (z++z') s2 ar (by rw[←ap3];exact a) (by rw[←ap3];exact b)
       ·cases hl
      ·cases hl
     ·cases hl
    ·cases h
def kR:List T→St→List T×St
 |[],S=>([],S)
 |t::l,S=>((rO t S).1::(kR l (rO t S).2).1,(kR l (rO t S).2).2)
theorem JS: ∀(l:List T) (S:St) (θ:List Int) (vs:List V),Ok θ S s rows→bg θ l vs→ ∃z,Ok (θ++z) (kR l S).2 s rows∧bg (θ++z) (kR l S).1 vs
 |[],S,θ,vs,h,hl=>⟨[],by simpa[kR]using h,by simpa[kR]using hl⟩
 |t::l,S,θ,[],h,hl=>by have:=hl.1;simp at this
 |t::l,S,θ,v::vs,h,hl=>by
  obtain⟨z,h1,h2⟩:=TT h (hl.2 0 t v rfl rfl)
  have lR:bg θ l vs:=⟨by have:=hl.1;simpa using this,fun i a b p q=>hl.2 (i+1) a b (by simpa using p) (by simpa using q)⟩
  obtain⟨z2,h3,h4⟩:=JS l (rO t S).2 (θ++z) vs h1 lR.pre
  refine⟨z++z2,by rw[←ap3];exact h3,?_⟩
  rw[←ap3]
  refine⟨by simp[kR,h4.1],fun i a b p q=>?_⟩
  cases i with
  |zero=>simp[kR]at p q;subst p;subst q;exact h2.pre
  |succ i=>exact h4.2 i a b (by simpa[kR]using p) (by simpa using q)
def uB:List Nat→St→St
 |[],S=>S
 |r::l,S=>(match S.R[r]? with
  |some (.cells c)=>bif Nat.ble 25 c.length then uB l S else uB l {(kR c S).2 with R:=(kR c S).2.R.set r (.cells (kR c S).1)}
  |_=>uB l S)
theorem tf: ∀(l:List Nat) (S:St) (θ:List Int),Ok θ S s rows→ ∃z,Ok (θ++z) (uB l S) s rows
 |[],S,θ,h=>⟨[],by simpa[uB]using h⟩
 |r::l,S,θ,h=>by
  simp only[uB]
  split
  ·rename_i c hc
   cases anC:Nat.ble 25 c.length with
   |true=>exact tf l S θ h
   |false=>
   simp only[cond_false]
   obtain⟨q,hq⟩:=aC (l:=rows) (i:=r) (by rw[←h.di];exact(apN.1 hc).1)
   have dN:=h.rows r _ q hc hq
   cases q with
   |live cs=>
    obtain⟨z,h1,h2⟩:=JS c S θ cs h dN
    obtain⟨z2,h3⟩:=tf l {(kR c S).2 with R:=(kR c S).2.R.set r (.cells (kR c S).1)} (θ++z) ⟨h1.zero,h1.ng,h1.facts,h1.bO,by simpa using h1.di,fun i a q ha gi=>by
     simp only[aqB]at ha
     split at ha
     ·rename_i e
      subst e
      split at ha
      ·obtain rfl:=apO ha
       rw[hq]at gi
       obtain rfl:=apO gi
       exact h2
      ·cases ha
     ·exact h1.rows i a q ha gi⟩
    exact⟨z++z2,by rw[←ap3];exact h3⟩
   |_=>exact dN.elim
  ·exact tf l S θ h
def oD(M:List CE)(S:SL):SL:=M.foldl (fun E e=>eF E e.x .any) S
theorem D7: ∀(M:List CE) (S:SL) (x:Nat),bN (oD M S) x=.any∨(bN (oD M S) x=bN S x∧(x<S.length→cc M x=none))
 |[],S,x=>.inr ⟨rfl,fun _=>rfl⟩
 |e::M,S,x=>by
  rcases D7 M (eF S e.x .any) x with h|⟨h1,h2⟩
  ·exact .inl h
  ·by_cases hx:e.x=x∧e.x<S.length
   ·left
    show bN (oD M (eF S e.x .any)) x=_
    rw[h1,dL,if_pos hx]
   ·right
    refine⟨by show bN (oD M (eF S e.x .any)) x=_;rw[h1,dL,if_neg hx],fun hl=>?_⟩
    have:=h2 (by rw[jK];exact hl)
    unfold cc at this⊢
    rw[arw,Fq fun h=>hx ⟨h,by rw[h];exact hl⟩]
    exact this
theorem BM: ∀(M:List CE) (S:SL),(oD M S).length=S.length
 |[],_=>rfl
 |e::M,S=>by show(oD M (eF S e.x .any)).length=_;rw[BM M,jK]
def OP(S:St)(ds:List (Option Tmp))(rs:RS):St:=uB rs.W (AI ds [] ⟨S.ng,S.F,oD rs.M rs.S,rs.R⟩)
theorem JT{S:St}{rs:RS}(qM:θ.length=S.ng)(h:uO θ S.F rs.S rs.M rs.R s rows): ∃z,Ok (θ++z) (OP S ds rs) s rows:=by
 have h1:Ok θ ⟨S.ng,S.F,oD rs.M rs.S,rs.R⟩ s rows:=⟨h.zero,qM,h.facts,AU (by rw[BM];exact h.bO.len) fun x=>by
  rcases D7 rs.M rs.S x with e|⟨e,e2⟩
  ·rw[e];exact .any
  ·rcases apQ x rs.S.length with hl|hl
   ·rw[e];exact h.bO.pl x (e2 hl)
   ·rw[e,kK hl];exact .any,h.di,h.rows⟩
 obtain⟨z,h2⟩:=xp ds [] _ θ Fe h1
 obtain⟨z2,h3⟩:=tf rs.W _ _ h2
 exact⟨z++z2,by rw[←ap3];exact h3⟩
def Rk(P:Program)(L:Env)(F:List Fact)(ops:Array Oper):List Oper→RS→Option (List (List Nat)×List Bool)
 |[],_=>some ([],[])
 |o::os,rs=>(let out:=stepT P L F ops rs.S rs.M rs.R rs.R.length o
  match km rs o.dst out with
  |some dr=>(match Rk P L F ops os dr with
   |some (a,b)=>some (ko out::a,(ko out).contains rs.R.length::b)
   |none=>none)
  |none=>none)
def tC:List (Option Tmp)→Bool
 |[]=>true
 |none::l=>tC l
 |some d::l=>(l.all fun e=>match e with|some x=>!Nat.beq x d|none=>true)&&tC l
theorem GP: ∀{l:List (Option Tmp)},tC l=true→ ∀i j x,en l i=some x→en l j=some x→i=j
 |[],_,i,j,x,h,_=>by simp[en]at h
 |e::l,h,i,j,x,hi,hj=>by
  have hl:tC l=true:=by
   cases e with
   |none=>exact h
   |some d=>simp only[tC,apP]at h;exact h.2
  have hd: ∀k,e=some x→en l k=some x→False:=by
   rintro k rfl hk
   simp only[tC,apP]at h
   unfold en at hk
   cases ZV:l[k]? with
   |none=>rw[ZV]at hk;cases hk
   |some y=>
    rw[ZV]at hk
    have hy:y=some x:=hk
    have:=ap1.1 h.1 y (aqg ZV)
    rw[hy]at this
    simp only[Nat.beq_refl]at this
    cases this
  cases i with
  |zero=>
   cases j with
   |zero=>rfl
   |succ j=>exact(hd j (by simpa[en]using hi) (by simpa[en]using hj)).elim
  |succ i=>
   cases j with
   |zero=>exact(hd i (by simpa[en]using hj) (by simpa[en]using hi)).elim
   |succ j=>rw[GP hl i j x (by simpa[en]using hi) (by simpa[en]using hj)]
def tD:List Bool→Nat
 |[]=>0
 |true::l=>tD l+1
 |false::l=>tD l
def AF(P:Program)(L:Env)(ops:Array Oper)(draw:Bool)(S:St):Option (List St):=
 let os:=ops.toList
 let ds:=os.map (·.dst)
 if draw then(match Rk P L S.F ops os ⟨S.S,[],S.R,[]⟩with
  |some (wr,nw)=>(let bs:=nY ops
   if P.follows .mixedOrders&&(jE ops bs&&(tC ds&&Nat.beq wr.length ops.size))then
    (AS P L S.F ops bs ds wr os nw 0 S.R.length ⟨S.S,[],S.R++List.replicate (tD nw) .bu,[]⟩).map (fun q=> [OP S ds q])else none)
  |none=>none)
 else(oC P L ops os (S.ng,S.F) ⟨S.S,[],S.R,[]⟩).map fun l=>l.map fun q=>OP ⟨q.1.1,q.1.2,S.S,S.R⟩ ds q.2
theorem QR(hL:Env.Ok P L){S:St}{Ss:List St}{draw:Bool}{n0 id:Nat}{Q:Exit→KS}(h:AF P L ops draw S=some Ss)(hO:Ok θ S s rows)(hQ: ∀S'∈Ss,∀z s' ad,Ok (θ++z) S' s' ad→Q .normal s' ad):aS P n0 (.region id ops draw) Q s rows:=by
 have h00: ∀{R:List AR} {rows:List Row},R.length=rows.length→(∀(i:Nat) a r,R[i]?=some a→rows[i]?=some r→cX θ a r)→uO θ S.F S.S [] R s rows:=fun h1 h2=>⟨hO.zero,hO.facts,⟨hO.bO.1,fun x _=>hO.bO.bN x,fun e he=>by simp at he⟩,h1,h2⟩
 unfold AF at h
 dsimp only at h
 split at h
 ·rename_i hd
  subst hd
  split at h
  ·rename_i wr nw jk
   split at h
   ·rename_i hc
    simp only[apP,aqi]at hc
    obtain⟨c1,c2,c3,c4⟩:=hc
    obtain⟨fin,h1,rfl⟩:=map_some h
    obtain⟨tr,t1,t2,t3⟩:=D5 _ _ _ _ _ _ h1
    have cm:ops.toList.length=ops.size:=by simp
    rw[aq6,cm]at t2
    have hD:ij P L S.F ops (nY ops) (ops.toList.map (·.dst)) wr tr:=⟨c2,rfl,c4,GP c3,fun i o ho=>by
     have:=t3 i o (by simpa using ho)
     simpa using this,by rw[t1]⟩
    intro c a w hn bX rd ju
    obtain⟨ro,ρ,g,hs⟩:=bX
    refine wpIn_mono (Q:=lift c (cZ (Q .normal) Q)) (wpIn_region_any c1 ?_) ?_
    ·obtain⟨g1,e1⟩:=g.drew (w.drawn+1)
     obtain⟨g2,e2⟩:=g1.AO (tD nw)
     refine OM (θ:=θ) hn.2 hL hD hO.zero hO.facts (fun s' ad hx=>?_) ops.size (List.range ops.size) _ a _ s (rows++List.replicate (tD nw) .bu) (by simp) (by simp) (fun j=>?_) List.nodup_range ?_ ⟨ro,_,g2,(hs.ext e1).ext e2⟩ ?_
     ·rw[t2]at hx
      obtain⟨z,hz⟩:=JT (S:=S) (ds:=ops.toList.map (·.dst)) hO.ng hx
      exact hQ _ (aqn.2 rfl) z s' ad hz
     ·rw[aqv]
      constructor
      ·intro hj;simp[hj]
      ·intro hj
       have:=cw hj
       simpa using this
     ·intro i o ho hl
      have hi:i<ops.size:=(ap4.1 ho).1
      simp[hi]at hl
     ·have zu:=h00 (R:=S.R++List.replicate (tD nw) .bu) (rows:=rows++List.replicate (tD nw) .bu) (by simp[hO.di]) fun i a r ha hr=>by
       rw[aqq]at ha hr
       rw[hO.di]at ha
       split at ha
       ·rename_i hi
        rw[if_pos hi]at hr
        exact hO.rows i a r ha hr
       ·rename_i hi
        rw[if_neg hi]at hr
        rw[arh]at ha hr
        split at ha
        ·rename_i pM
         rw[if_pos pM]at hr
         obtain rfl:=apO ha
         obtain rfl:=apO hr
         rfl
        ·cases ha
      have none: ∀{j:Nat},(Array.replicate ops.size false).getD j false=false:=fun{j}=>by
       by_cases hj:j<ops.size<;>simp[hj]
      have ace: ∀{x b:Nat},b≤ops.size→(∀j,j<ops.size→isDst (ops.toList.map (·.dst)) x j=true→((Array.replicate ops.size false).getD j false=true↔j<b))→ ∀j,0≤j→j<b→isDst (ops.toList.map (·.dst)) x j=false:=fun{x b} hb hw j _ hj=>by
       cases hd:isDst (ops.toList.map (·.dst)) x j with
       |false=>rfl
       |true=>have:=(hw j (by omega) hd).2 hj;rw[none]at this;cases this
      refine⟨by rw[t1];exact hO.bO.1,fun x b hb hw=>?_,by rw[t1];exact zu.di,fun r b hb hw a q ha hq=>?_⟩
      ·obtain⟨q1,q2,q3⟩:=hD.OK (x:=x) (a:=0) b (arW _) hb (ace hb hw)
       rw[t1]at q1 q2 q3
       exact⟨fun _=>by rw[q1];exact hO.bO.bN x,fun e he hex=>by have:=(q3 e hex).1 he;simp at this⟩
      ·have dT: ∀j,0≤j→j<b→mR wr r j=false:=fun j _ hj=>by
        cases hd:mR wr r j with
        |false=>rfl
        |true=>have:=(hw j (by omega) hd).2 hj;rw[none]at this;cases this
       rw[hD.OL (r:=r) (a:=0) b (arW _) hb dT,t1]at ha
       exact zu.rows r a q ha hq
    ·rintro e a' w' ⟨s',ad,QS,c8⟩
     cases e<;>exact⟨s',ad,QS,c8⟩
   ·cases h
  ·cases h
 ·rename_i hd
  obtain rfl:draw=false:=by simpa using hd
  obtain⟨fin,h1,rfl⟩:=map_some h
  refine L0 (kQ hL _ _ _ _ θ _ _ h1 hO.ng (h00 hO.di hO.rows) fun fin hf z s' ad qM hx=>?_)
  obtain⟨z2,hz⟩:=JT (S:=⟨fin.1.1,fin.1.2,S.S,S.R⟩) (ds:=ops.toList.map (·.dst)) qM hx
  exact hQ _ (aqd.2 ⟨fin,hf,rfl⟩) (z++z2) s' ad (by rw[←ap3];exact hz)
end
end
end Go.Ck
set_option linter.unusedSectionVars false
namespace Go.Ck
noncomputable section
open Go.VS
variable [eb]
def Vz(x:Bool)(F:List Fact)(R:List AR)(id:Nat)(t:T):T:=
 match t with
 |.av i l sz=>if i=id then(match(bif x then qN R sz (.av i l sz)else none)with
  |some (m,c)=>.fX m c
  |none=>(match iW F R sz (.av i l sz)with
   |some (l',e)=>if notNil e∧e.length=sz then .sl l' e else .any
   |none=>.any))else .av i l sz
 |.ref i off=>if i=id then(match R[id]? with
  |some (.cells cl)=>if off<cl.length then .aL (cl.drop off)else .any
  |_=>.any)else .ref i off
 |.fy i a b c=>if i=id then .any else .fy i a b c
 |.alt _ _=>.any
 |t=>t
def Ub(x:Bool)(F:List Fact)(R:List AR)(id:Nat)(a:AR):AR:=
 match a with
 |.cells l=>.cells (l.map (Vz x F R id))
 |.arr n e=>if T.mu e then .arr n e else .arr n (e.map fun _=>.any)
 |a=>a
def Nl(a:Option AR):Bool:=
 match a with
 |some (.cells l)=>T.mu l
 |some (.arr _ e)=>T.mu e
 |_=>false
def SL.map(f:T→T)(S:SL):SL:=⟨S.length,S.l.map fun p=>(p.1,f p.2),S.ex⟩
theorem JU{f:T→T}(h:f .any=.any): ∀(l:List (Nat×T)) (i:Nat),look (l.map fun p=>(p.1,f p.2)) i=f (look l i)
 |[],i=>h.symm
 |p::l,i=>by
  rw[aqt,eY,eY,JU h l i]
  cases Nat.beq p.1 i<;>rfl
def wc(id:Nat)(S:St):Option St:=
 if Nl S.R[id]? then some {S with S:=S.S.map (Vz S.S.ex S.F S.R id),R:=(S.R.set id .dead).map (Ub S.S.ex S.F S.R id)}else none
section
variable {P : Program} {L : List fu} {θ : List Int} {F : List Fact} {S J : St} {R : List AR} {E : SL} {id : Nat} {s : List V} {rows : List Row}
theorem sf{cs:List V}{v:V}(h:v.Pure):fz id cs v=v:=by cases h<;>rfl
theorem Rl{x:Bool}(hO:Cx θ F E R s rows){cs:List V}(hr:rows[id]?=some (.live cs)){t:T}{v:V}(h:Has θ t v):Has θ (Vz x F R id t) (fz id cs v):=by
 unfold Vz
 split
 ·rename_i i l sz
  split
  ·rename_i e
   subst e
   split
   ·rename_i m c VA
    have VA:qN R sz (.av i l sz)=some (m,c):=by
     cases x with
     |true=>exact VA
     |false=>cases VA
    have nE:=uR hO VA h (k:=fun nv ds=>nv=m∧bg θ c ds∧ds.length=m*sz) fun ds a b=>⟨rfl,a,b⟩
    cases h with
    |@av _ _ n _ p=>
    obtain⟨-,ds,w1,w2,rfl,w4,w5⟩:=nE
    rw[hr]at w1
    obtain rfl:cs=ds:=by injection w1 with w1;injection w1
    simp only[fz]
    rw[if_pos ⟨trivial,w2⟩]
    exact .fX w4.1 w4.2
   split
   ·rename_i l' e hs
    split
    ·rename_i hc
     have nE:=xL hO hs h (k:=fun m ds=>l'.Has θ (m:Int)∧ds.length=m*sz∧pe θ e ds) fun m ds a b c=>⟨a,b,c⟩
     cases h with
     |@av _ _ n _ p=>
     obtain⟨-,ds,w1,w2,w3,w4,w5⟩:=nE
     rw[hr]at w1
     obtain rfl:cs=ds:=by injection w1 with w1;injection w1
     simp only[fz]
     rw[if_pos ⟨trivial,w2⟩]
     exact .sl w3 (ea hc.1) (by rw[hc.2];exact w4) w5
    ·exact .any
   ·exact .any
  ·rename_i bw
   cases h with
   |av p=>
   simp only[fz]
   rw[if_neg fun e=>bw e.1]
   exact .av p
 ·rename_i i off
  split
  ·rename_i e
   subst e
   split
   ·rename_i cl hR
    split
    ·rename_i aO
     cases h
     obtain⟨r,r1,r2⟩:=hO.row hR
     rw[hr]at r1
     obtain rfl:=apO r1
     have hl:cl.length=cs.length:=r2.1
     simp only[fz]
     rw[if_pos ⟨trivial,by rintro rfl;simp only[aqh]at hl;omega,by omega⟩]
     refine .aL (by intro e;have:=congrArg List.length e;simp only[apU,aqh]at this;omega) (by simp only[apU];omega) fun j t v a b=>?_
     rw[aqb]at a b
     exact r2.2 _ t v a b
    ·exact .any
   ·exact .any
  ·rename_i bw
   cases h
   simp only[fz]
   rw[if_neg fun e=>bw e.1]
   exact .ref
 ·rename_i i a b c
  split
  ·exact .any
  ·rename_i bw
   cases h with
   |fy p=>
   simp only[fz]
   rw[if_neg fun e=>bw e.1]
   exact .fy p
 ·exact .any
 ·rename_i h1 h2 h3 h4
  have:fz id cs v=v∨t=.any:=by
   cases h
   ·exact .inr rfl
   case undef=>exact .inl rfl
   case av=>exact absurd rfl (h1 _ _ _)
   case ref=>exact absurd rfl (h2 _ _)
   case fy=>exact absurd rfl (h3 _ _ _ _)
   case tg=>exact absurd rfl (h4 _ _)
   case tj=>exact absurd rfl (h4 _ _)
   all_goals exact .inl rfl
  rcases this with e|e
  ·rw[e];exact h
  ·rw[e];exact .any
theorem WO{f:T→T}{g:V→V}{ts:List T}{vs:List V}(h:bg θ ts vs)(hf: ∀t v,Has θ t v→Has θ (f t) (g v)):bg θ (ts.map f) (vs.map g):=by
 refine⟨by simp[h.1],fun i t v a b=>?_⟩
 rw[apZ]at a b
 cases ht:ts[i]? with
 |none=>rw[ht]at a;cases a
 |some x=>
  cases hv:vs[i]? with
  |none=>rw[hv]at b;cases b
  |some y=>
   rw[ht]at a
   rw[hv]at b
   obtain rfl:=apO a
   obtain rfl:=apO b
   exact hf x y (h.2 i x y ht hv)
theorem WQ{f:T→T}{g:V→V}{ts:SL}{vs:List V}(h:j8 θ ts vs)(h0:f .any=.any)(hf: ∀t v,Has θ t v→Has θ (f t) (g v)):j8 θ (ts.map f) (vs.map g):=by
 refine⟨by simp[SL.map,h.1],fun i hi=>?_⟩
 have BN:i<ts.length:=hi
 show Has θ (look (ts.l.map fun p=>(p.1,f p.2)) i) _
 rw[JU h0]
 have:=hf _ _ (h.2 i BN)
 rw[gb]at this⊢
 obtain⟨v,hv⟩:=aC (l:=vs) (i:=i) (by rw[←h.1];exact BN)
 rw[apZ,hv]
 rw[hv]at this
 exact this
theorem Ok.cx(h:Ok θ S s rows):Cx θ S.F S.S S.R s rows:=⟨h.zero,h.facts,h.bO,h.di,h.rows⟩
theorem D8{S':St}(h:wc id S=some S')(hO:Ok θ S s rows): ∃cs,rows[id]?=some (.live cs)∧bf cs∧Ok θ S' (s.map (fz id cs)) ((rows.set id .dead).map (im id cs)):=by
 unfold wc at h
 obtain⟨hp,rfl⟩:=aG h
 obtain⟨cs,hr,rq⟩: ∃cs,rows[id]?=some (.live cs)∧bf cs:=by
  unfold Nl at hp
  split at hp
  ·rename_i l hl
   obtain⟨r,r1,r2⟩:=hO.cx.row hl
   cases r with
   |live cs=>exact⟨cs,r1,mw r2.1 fun i t v a b=>(r2.2 i t v a b).pure (T.gR hp a)⟩
   |_=>exact r2.elim
  ·rename_i n e hl
   obtain⟨r,r1,r2⟩:=hO.cx.row hl
   cases r with
   |live cs=>
    refine⟨cs,r1,fun v hv=>?_⟩
    obtain⟨i,hi⟩:=aqm.1 hv
    obtain⟨t,ht⟩:=aC (l:=e) (i:=i%e.length) (arc _ (aqj.2 r2.1))
    exact(r2.2.2 i t v ht hi).pure (T.gR hp ht)
   |_=>exact r2.elim
  ·cases hp
 refine⟨cs,hr,rq,⟨hO.zero,hO.ng,hO.facts,WQ hO.bO rfl fun t v h=>Rl hO.cx hr h,by simp[hO.di],fun i a r ha jU=>?_⟩⟩
 rw[apZ]at ha jU
 cases hA:(S.R.set id AR.dead)[i]? with
 |none=>rw[hA]at ha;cases ha
 |some b=>
  cases hB:(rows.set id Row.dead)[i]? with
  |none=>rw[hB]at jU;cases jU
  |some q=>
   rw[hA]at ha
   rw[hB]at jU
   obtain rfl:=apO ha
   obtain rfl:=apO jU
   rw[aqB]at hA hB
   by_cases hi:id=i
   ·subst hi
    rw[if_pos rfl]at hA
    split at hA
    ·obtain rfl:=apO hA
     rw[if_pos rfl]at hB
     split at hB
     ·obtain rfl:=apO hB;exact fun h=>by cases h
     ·cases hB
    ·cases hA
   ·rw[if_neg hi]at hA hB
    have h0:=hO.rows i b q hA hB
    cases b with
    |gn=>exact trivial
    |dead=>cases q<;>simp_all[cX,Ub,im]
    |bu=>rw[show q=.bu from h0];rfl
    |cells l=>
     cases q with
     |live ds=>exact WO h0 fun t v h=>Rl hO.cx hr h
     |_=>exact h0.elim
    |arr n e=>
     cases q with
     |live ds=>
      obtain⟨k1,⟨m,k2,k3⟩,k4⟩:=h0
      simp only[Ub,im]
      split
      ·rename_i P8
       refine⟨k1,⟨m,k2,by simpa using k3⟩,fun j t v a b=>?_⟩
       rw[apZ]at b
       cases hd:ds[j]? with
       |none=>rw[hd]at b;cases b
       |some y=>
        rw[hd]at b
        obtain rfl:=apO b
        have:=k4 j t y a hd
        rw[sf (this.pure (T.gR P8 a))]
        exact this
      ·refine⟨by simpa using k1,⟨m,k2,by simpa using k3⟩,fun j t v a b=>?_⟩
       rw[apZ]at a
       cases he:e[j%(List.map (fun _=>T.any) e).length]? with
       |none=>rw[he]at a;cases a
       |some y=>rw[he]at a;obtain rfl:=apO a;exact .any
     |_=>exact h0.elim
theorem LS{n0:Nat}{Q:Exit→KS}{code:Code}{S':St}(h:wc id S=some S')(hO:Ok θ S s rows)(hk: ∀s' ad,Ok θ S' s' ad→aS P n0 code Q s' ad):aS P n0 code Q s rows:=by
 obtain⟨cs,h1,h2,h3⟩:=D8 h hO
 exact C6 id h1 h2 (hk _ _ h3)
theorem I1{n0:Nat}{K:KS}(hJ:Oo n0 K){S':St}(h:wc id S=some S')(hO:Ok θ S s rows)(hk: ∀s' ad,Ok θ S' s' ad→K s' ad):K s rows:=by
 obtain⟨cs,h1,h2,h3⟩:=D8 h hO
 exact hJ.fz id h1 h2 rfl rfl (hk _ _ h3)
def BO(m:Nat)(μ:List (Nat×Int))(g:Nat):Option (Nat×Int):=if g<m then some (g,0)else μ[g-m]?
def gQ(θ:List Int)(m:Nat)(μ:List (Nat×Int)):List Int:=θ.take m++μ.map fun p=>(θ[p.1]?).getD 0+p.2
def rk(F:List Fact)(m:Nat)(μ:List (Nat×Int))(i j:IV):Bool:=
 match j with
 |.aH b d=>(match BO m μ b with
  |some (g,c)=>(match i with
   |.aH g' c'=>Nat.beq g g'&&decide (c'=c+d)
   |_=>false)
  |none=>false)
 |.sum (.aH b d) (.aH b' d')=>(match i with
  |.sum (.aH g c) (.aH g' c')=>(match BO m μ b with
   |some (h,e)=>(match BO m μ b' with
    |some (h',e')=>Nat.beq g h&&(Nat.beq g' h'&&(decide (c=e+d)&&decide (c'=e'+d')))
    |none=>false)
   |none=>false)
  |.aH g c=>(match BO m μ b with
   |some (h,e)=>(match BO m μ b' with
    |some (h',e')=>Nat.beq h' 0&&(Nat.beq g h&&decide (c=e+d+(e'+d')))
    |none=>false)
   |none=>false)
  |_=>false)
 |.sum _ _=>false
 |j=>i.sub F j
theorem qO{m:Nat}{μ:List (Nat×Int)}(hm:m≤θ.length)(hH: ∀p∈μ,p.1<θ.length){b g:Nat}{c:Int}(h:BO m μ b=some (g,c)): ∃x,θ[g]?=some x∧(gQ θ m μ)[b]?=some (x+c):=by
 have hl:(θ.take m).length=m:=by simp;omega
 unfold BO at h
 unfold gQ
 split at h
 ·rename_i hb
  simp only[aqy,apX]at h
  obtain⟨rfl,rfl⟩:=h
  obtain⟨x,hx⟩:=aC (l:=θ) (i:=b) (by omega)
  refine⟨x,hx,?_⟩
  rw[ap7 (by omega),aqc,if_pos hb,hx]
  simp
 ·rename_i hb
  have aO:=hH _ (aqg h)
  obtain⟨x,hx⟩:=aC aO
  refine⟨x,hx,?_⟩
  rw[aqL (by omega),hl,apZ,h]
  simp only[aqU,hx,arj]
theorem AW{m:Nat}{μ:List (Nat×Int)}(h0:θ[0]?=some 0)(hF:aM θ F)(hm:m≤θ.length)(hH: ∀p∈μ,p.1<θ.length){i j:IV}{n:Int}(h:rk F m μ i j=true)(hn:i.Has θ n):j.Has (gQ θ m μ) n:=by
 unfold rk at h
 split at h
 ·split at h
  ·rename_i g c hg
   obtain⟨x,h1,h2⟩:=qO hm hH hg
   split at h
   ·simp only[apP,aqi,decide_eq_true_eq]at h
    obtain⟨rfl,rfl⟩:=h
    obtain⟨y,hy,rfl⟩:=hn
    rw[h1]at hy
    obtain rfl:=apO hy
    exact⟨_,h2,by omega⟩
   ·cases h
  ·cases h
 ·split at h
  ·split at h
   ·rename_i hg
    split at h
    ·rename_i MC
     simp only[apP,aqi,decide_eq_true_eq]at h
     obtain⟨rfl,rfl,rfl,rfl⟩:=h
     obtain⟨x,y,⟨u,e1,rfl⟩,⟨w,e2,rfl⟩,rfl⟩:=hn
     obtain⟨x1,q1,q2⟩:=qO hm hH hg
     obtain⟨x2,q3,q4⟩:=qO hm hH MC
     rw[e1]at q1
     rw[e2]at q3
     obtain rfl:=apO q1
     obtain rfl:=apO q3
     exact⟨_,_,⟨_,q2,rfl⟩,⟨_,q4,rfl⟩,by omega⟩
    ·cases h
   ·cases h
  ·split at h
   ·rename_i hg
    split at h
    ·rename_i MC
     simp only[apP,aqi,decide_eq_true_eq]at h
     obtain⟨rfl,rfl,rfl⟩:=h
     obtain⟨x,e1,rfl⟩:=hn
     obtain⟨x1,q1,q2⟩:=qO hm hH hg
     obtain⟨x2,q3,q4⟩:=qO hm hH MC
     rw[e1]at q1
     rw[h0]at q3
     obtain rfl:=apO q1
     obtain rfl:=apO q3
     exact⟨_,_,⟨_,q2,rfl⟩,⟨_,q4,rfl⟩,by omega⟩
    ·cases h
   ·cases h
  ·cases h
 ·cases h
 ·rename_i n1 n2 n3
  have:=IV.ny h0 hF h hn
  cases j with
  |aH b d=>exact absurd rfl (n1 b d)
  |sum a b=>exact absurd rfl (n3 a b)
  |lQ=>simp[IV.sub]at h
  |aR a b=>exact this
  |top=>trivial
def Rm(m:Nat):IV→IV→Bool
 |.aH g c,.aH h d=>Nat.beq g h&&(Nat.blt g m&&decide (c=d))
 |.aR a b,.aR c d=>decide (a=c)&&decide (b=d)
 |.top,.top=>true
 |_,_=>false
def VB(o:Option Bool):Bool:=
 match o with
 |none=>true
 |some _=>false
def wa(m:Nat):Nat→T→T→Bool
 |0,_,_=>false
 |n+1,t,u=>match t with
  |.int k i=>(match u with|.int k' j=>decide (k=k')&&Rm m i j|_=>false)
  |.bool o y n=>(match u with|.bool o' y' n'=>VB o&&(VB o'&&(!notNil y&&(!notNil n&&(!notNil y'&&!notNil n'))))|_=>false)
  |.str i=>(match u with|.str j=>Rm m i j|_=>false)
  |.aj=>(match u with|.aj=>true|_=>false)
  |.aq=>(match u with|.aq=>true|_=>false)
  |.sl i e=>(match u with|.sl j e'=>Rm m i j&&(notNil e&&dm (wa m n) e e')|_=>false)
  |.agg e=>(match u with|.agg e'=>dm (wa m n) e e'|_=>false)
  |.aB e=>(match u with|.aB e'=>dm (wa m n) e e'|_=>false)
  |_=>false
theorem WR{m:Nat}{μ:List (Nat×Int)}(hm:m≤θ.length){g:Nat}(hg:g<m):(gQ θ m μ)[g]?=θ[g]?:=by
 unfold gQ
 rw[ap7 (by simp;omega),aqc,if_pos hg]
theorem D9{m:Nat}{μ:List (Nat×Int)}(hm:m≤θ.length){i j:IV}(h:Rm m i j=true){n:Int}(hn:i.Has θ n):j.Has (gQ θ m μ) n:=by
 unfold Rm at h
 split at h
 ·simp only[apP,aqi,decide_eq_true_eq]at h
  obtain⟨rfl,h2,rfl⟩:=h
  obtain⟨x,hx,rfl⟩:=hn
  exact⟨x,by rw[WR hm (Fj.1 h2)];exact hx,rfl⟩
 ·simp only[apP,decide_eq_true_eq]at h
  obtain⟨rfl,rfl⟩:=h
  exact hn
 ·trivial
 ·cases h
theorem ZW{m:Nat}{μ:List (Nat×Int)}(hm:m≤θ.length): ∀(n:Nat) (t u:T) (v:V),wa m n t u=true→Has θ t v→Has (gQ θ m μ) u v∧v.Pure:=by
 intro n
 induction n with
 |zero=>intro t u v h;simp[wa]at h
 |succ n ih=>
  intro t u v h hv
  have deep: ∀{e e':List T} {vs:List V},dm (wa m n) e e'=true→e.length=vs.length→(∀(i:Nat) t v,e[i]?=some t→vs[i]?=some v→Has θ t v)→e'.length=vs.length∧(∀(i:Nat) t v,e'[i]?=some t→vs[i]?=some v→Has (gQ θ m μ) t v)∧ ∀v∈vs,v.Pure:=by
   intro e e' vs h1 h2 h3
   obtain⟨a1,a2⟩:=iJ h1
   have each: ∀(i:Nat) b v,e'[i]?=some b→vs[i]?=some v→Has (gQ θ m μ) b v∧v.Pure:=fun i b v hb hv=>by
    obtain⟨a,ha⟩:=aC (l:=e) (i:=i) (by have:=(apN.1 hb).1;omega)
    exact ih a b v (a2 i a b ha hb) (h3 i a v ha hv)
   refine⟨by omega,fun i b v hb hv=>(each i b v hb hv).1,fun v hv=>?_⟩
   obtain⟨i,hi⟩:=aqm.1 hv
   obtain⟨b,hb⟩:=aC (l:=e') (i:=i) (by have:=(apN.1 hi).1;omega)
   exact(each i b v hb hi).2
  unfold wa at h
  split at h<;>try(cases h;done)
  all_goals(split at h<;>first|(cases h;done)|skip)
  ·simp only[apP,decide_eq_true_eq]at h
   obtain⟨rfl,h⟩:=h
   cases hv with|int p=>exact⟨.int (D9 hm h p),.int⟩
  ·rename_i o' y' n'
   simp only[apP]at h
   obtain⟨-,h2,-,-,h3,h4⟩:=h
   rw[iq h3,iq h4]
   cases hv
   refine⟨.bool (fun c hc=>?_) (fun _=>cr) (fun _=>cr),.bool⟩
   subst hc
   cases h2
  ·cases hv with|str p=>exact⟨.str (D9 hm h p),.str⟩
  ·cases hv;exact⟨.aj,.aj⟩
  ·cases hv;exact⟨.aq,.aq⟩
  ·simp only[apP]at h
   obtain⟨h1,h2,h3⟩:=h
   obtain⟨a1,a2⟩:=iJ h3
   have cI:=jA h2
   rename_i i e _ j e'
   have bw:e'≠ []:=by
    intro he
    rw[he]at a1
    simp only[aqh]at a1
    omega
   cases hv with
   |kW p q=>exact⟨.kW (D9 hm h1 p) bw,.aj⟩
   |sl p q r t=>
    refine⟨.sl (D9 hm h1 p) bw (by rw[r,a1]) fun k b v hb hv=>?_,.sl⟩
    rw[←a1]at hb
    obtain⟨a,ha⟩:=aC (l:=e) (i:=k%e.length) (arc _ cI)
    exact(ih a b v (a2 _ a b ha hb) (t k a v ha hv)).1
  ·cases hv with|agg p q=>obtain⟨a,b,c⟩:=deep h p q;exact⟨.agg a b,.agg c⟩
  ·cases hv with|aB p q=>obtain⟨a,b,c⟩:=deep h p q;exact⟨.aB a b,.aB c⟩
def BP(F:List Fact)(m:Nat)(μ:List (Nat×Int))(ρ:List (Option Nat)):Nat→T→T→Bool
 |0,_,_=>false
 |n+1,t,u=>bif wa m 8 t u then true else
  match u with
  |.any=>true
  |.undef=>(match t with|.undef=>true|_=>false)
  |.int k' j=>(match t with|.int k i=>decide (k=k')&&rk F m μ i j|_=>false)
  |.bool o y n=>(match t with|.bool o' _ _=>(match o with|none=>true|some c=>(match o' with|some c'=>c==c'|none=>false))&&!notNil y&&!notNil n|_=>false)
  |.str j=>(match t with|.str i=>rk F m μ i j|.lit b=>rk F m μ (.aH 0 b.length) j|_=>false)
  |.lit b=>(match t with|.lit b'=>jT b' b|_=>false)
  |.alt a b=>BP F m μ ρ n t a||BP F m μ ρ n t b
  |.fX m' e'=>T.hY e'&&(match t with|.fX m e=>Nat.beq m m'&&dm (fH F 8) e e'|_=>false)
  |.fY b=>(match t with|.fY b'=>xx b' b|_=>false)
  |.aj=>(match t with|.aj=>true|_=>false)
  |.aq=>(match t with|.aq=>true|_=>false)
  |.sl l' e'=>T.hY e'&&notNil e'&&(match t with
   |.aj=>rk F m μ (.aH 0 0) l'
   |.sl l e=>rk F m μ l l'&&notNil e&&dm (fH F 8) e e'
   |_=>false)
  |.aL e'=>T.hY e'&&notNil e'&&(match t with|.aL e=>zd (fH F 8) e e'|_=>false)
  |.ref j o'=>(match t with|.ref i o=>(match ρ[j]? with|some (some i')=>Nat.beq i i'&&Nat.beq o o'|_=>false)|_=>false)
  |.av j l' cG=>(match t with
   |.av i l sz=>(match ρ[j]? with|some (some i')=>Nat.beq i i'&&rk F m μ l l'&&Nat.beq sz cG|_=>false)
   |.aj=>(match ρ[j]? with|some none=>rk F m μ (.aH 0 0) l'|_=>false)
   |_=>false)
  |.agg e'=>(match t with|.agg e=>dm (BP F m μ ρ n) e e'|_=>false)
  |.aB e'=>(match t with|.aB e=>dm (BP F m μ ρ n) e e'|_=>false)
  |.fn f' e'=>(match t with|.fn f e=>Nat.beq f f'&&dm (BP F m μ ρ n) e e'|_=>false)
  |.fy _ _ _ _=>false
theorem xM{p:T→T→Bool}{θ':List Int}{ρ:List (Option Nat)}(ih: ∀t u v,p t u=true→Has θ t v→ ∃v',Has θ' u v'∧Ren false ρ v' v){e e':List T}{vs:List V}(h:dm p e e'=true)(hl:e.length=vs.length)(hg: ∀(i:Nat) t v,e[i]?=some t→vs[i]?=some v→Has θ t v):
  ∃ws,bg θ' e' ws∧ws.length=vs.length∧ ∀(i:Nat) x y,ws[i]?=some x→vs[i]?=some y→Ren false ρ x y:=by
 obtain⟨a1,a2⟩:=iJ h
 obtain⟨ws,w1,w2⟩:=lh (p:=fun i y=> ∀v u,vs[i]?=some v→e'[i]?=some u→Has θ' u y∧Ren false ρ y v) vs.length fun i hi=>by
  obtain⟨v,hv⟩:=aC hi
  obtain⟨t,ht⟩:=aC (l:=e) (i:=i) (by omega)
  obtain⟨u,hu⟩:=aC (l:=e') (i:=i) (by omega)
  obtain⟨y,q1,q2⟩:=ih t u v (a2 i t u ht hu) (hg i t v ht hv)
  exact⟨y,fun v' u' e1 e2=>by rw[hv]at e1;rw[hu]at e2;obtain rfl:=apO e1;obtain rfl:=apO e2;exact⟨q1,q2⟩⟩
 refine⟨ws,⟨by omega,fun i u y hu hy=>?_⟩,w1,fun i y v hy hv=>?_⟩
 ·obtain⟨v,hv⟩:=aC (l:=vs) (i:=i) (by have:=(apN.1 hu).1;omega)
  exact(w2 i y hy v u hv hu).1
 ·obtain⟨u,hu⟩:=aC (l:=e') (i:=i) (by have:=(apN.1 hv).1;omega)
  exact(w2 i y hy v u hv hu).2
theorem xN{m:Nat}{μ:List (Nat×Int)}(h0:θ[0]?=some 0)(h1:1≤m):(gQ θ m μ)[0]?=some 0:=by
 unfold gQ
 have hl:0<θ.length:=(apN.1 h0).1
 rw[ap7 (by simp;omega),aqc,if_pos (by omega),h0]
theorem Rn{m:Nat}{μ:List (Nat×Int)}{ρ:List (Option Nat)}(h0:θ[0]?=some 0)(hF:aM θ F)(h1:1≤m)(hm:m≤θ.length)(hH: ∀p∈μ,p.1<θ.length): ∀(n:Nat) (t u:T) (v:V),BP F m μ ρ n t u=true→Has θ t v→ ∃v',Has (gQ θ m μ) u v'∧Ren false ρ v' v:=by
 have hz:=xN (μ:=μ) h0 h1
 have iv:=fun{i j:IV} {n:Int}=>@AW _ θ F m μ h0 hF hm hH i j n
 have same: ∀{u:T} {v:V},v.Pure→Has (gQ θ m μ) u v→ ∃v',Has (gQ θ m μ) u v'∧Ren false ρ v' v:=fun hp h=>⟨_,h,.pure hp⟩
 have cl: ∀{u:T} {v:V},u.closed=true→Has θ u v→Has (gQ θ m μ) u v:=fun hc h=>(h.close h0 hc).GQ hz
 intro n
 induction n with
 |zero=>intro t u v h;simp[BP]at h
 |succ n ih=>
  intro t u v h hv
  simp only[BP]at h
  cases heq:wa m 8 t u with
  |true=>obtain⟨a,b⟩:=ZW (μ:=μ) hm 8 t u v heq hv;exact same b a
  |false=>
  rw[heq]at h
  simp only[cond_false]at h
  split at h
  ·exact⟨.aa,.any,.aa rfl⟩
  ·split at h
   ·cases hv;exact same .val .undef
   ·cases h
  ·split at h
   ·simp only[apP,decide_eq_true_eq]at h
    obtain⟨rfl,h⟩:=h
    cases hv with|int p=>exact same .int (.int (iv h p))
   ·cases h
  ·split at h
   ·simp only[apP]at h
    obtain⟨⟨ho,hy⟩,hn⟩:=h
    cases hv
    rename_i p1 p2 p3
    refine same .bool (.bool (fun c hc=>?_) (fun _=>?_) (fun _=>?_))
    ·subst hc
     simp only at ho
     split at ho
     ·exact p1 _ (by rw[eq_of_beq ho])
     ·cases ho
    ·rw[iq hy];exact cr
    ·rw[iq hn];exact cr
   ·cases h
  ·split at h
   ·cases hv with|str p=>exact same .str (.str (iv h p))
   ·cases hv;exact same .str (.str (iv h ⟨0,h0,by simp⟩))
   ·cases h
  ·split at h
   ·obtain rfl:=Jr h;cases hv;exact same .str .lit
   ·cases h
  ·rw[aqe]at h
   rcases h with h|h
   ·obtain⟨v',a1,a2⟩:=ih _ _ _ h hv;exact⟨v',.tg a1,a2⟩
   ·obtain⟨v',a1,a2⟩:=ih _ _ _ h hv;exact⟨v',.tj a1,a2⟩
  ·rename_i m' e'
   simp only[apP]at h
   obtain⟨hc,h⟩:=h
   split at h
   ·rename_i m2 e
    have hle:fH F 9 (.fX m2 e) (.fX m' e')=true:=by
     show(Nat.beq m2 m'&&dm (fH F 8) e e')=true
     exact h
    have:=kf h0 hF 9 (.fX m2 e) (.fX m' e') v hle hv
    have bZ:=cl (u:=.fX m' e') (by simpa[T.closed]using hc) this
    cases hv
    exact same .sl bZ
   ·cases h
  ·split at h
   ·obtain rfl:=AM h;cases hv with|fY ok=>exact same .str (.fY ok)
   ·cases h
  ·split at h
   ·cases hv;exact same .aj .aj
   ·cases h
  ·split at h
   ·cases hv;exact same .aq .aq
   ·cases h
  ·rename_i l' e'
   simp only[apP]at h
   obtain⟨⟨hc,bw⟩,h⟩:=h
   split at h
   ·cases hv;exact same .aj (.kW (iv h ⟨0,h0,by simp⟩) (ea bw))
   ·rename_i l e
    simp only[apP]at h
    obtain⟨⟨h3,h4⟩,h5⟩:=h
    have N0:=kf h0 hF 9 (.sl .top e) (.sl .top e') v
    have hle:fH F 9 (.sl .top e) (.sl .top e')=true:=by
     show(IV.sub F .top .top&&(notNil e&&dm (fH F 8) e e'))=true
     rw[h4,h5];rfl
    cases hv with
    |kW p q=>exact same .aj (.kW (iv h3 p) (ea bw))
    |sl p q r t=>
     have:=N0 hle (.sl trivial q r t)
     cases this with
     |sl _ _ r' t'=>exact same .sl (.sl (iv h3 p) (ea bw) r' fun i u v a b=>cl (T.fT hc a) (t' i u v a b))
   ·cases h
  ·rename_i e'
   simp only[apP]at h
   obtain⟨⟨hc,bw⟩,h⟩:=h
   split at h
   ·rename_i e
    have hle:fH F 9 (.aL e) (.aL e')=true:=by
     show(notNil e'&&zd (fH F 8) e e')=true
     rw[bw,h];rfl
    have:=kf h0 hF 9 (.aL e) (.aL e') v hle hv
    have bZ:=cl (u:=.aL e') (by simpa[T.closed]using hc) this
    cases hv
    exact same .aL bZ
   ·cases h
  ·rename_i j o'
   split at h
   ·split at h
    ·rename_i i' kc
     simp only[apP,aqi]at h
     obtain⟨rfl,rfl⟩:=h
     cases hv
     exact⟨_,.ref,.ref kc⟩
    ·cases h
   ·cases h
  ·rename_i j l' cG
   split at h
   ·split at h
    ·rename_i i' kc
     simp only[apP,aqi]at h
     obtain⟨⟨rfl,h⟩,rfl⟩:=h
     cases hv with
     |av p=>exact⟨_,.av (iv h p),.av kc⟩
    ·cases h
   ·split at h
    ·rename_i kc
     cases hv
     have:Has (gQ θ m μ) (.av j l' cG) (.av j 0 0 cG):=.av (iv h ⟨0,h0,by simp⟩)
     exact⟨_,this,.nil rfl kc⟩
    ·cases h
   ·cases h
  ·split at h
   ·cases hv with
    |agg p q=>obtain⟨ws,a,b,c⟩:=xM ih h p q;exact⟨_,.agg a.1 a.2,.agg b c⟩
   ·cases h
  ·split at h
   ·cases hv with
    |aB p q=>obtain⟨ws,a,b,c⟩:=xM ih h p q;exact⟨_,.aB a.1 a.2,.aB b c⟩
   ·cases h
  ·split at h
   ·simp only[apP,aqi]at h
    obtain⟨rfl,h⟩:=h
    cases hv with
    |fn p q=>obtain⟨ws,a,b,c⟩:=xM ih h p q;exact⟨_,.fn a.1 a.2,.fn b c⟩
   ·cases h
  ·cases h
def OQ(a:AR):Bool:=
 match a with
 |.dead=>true
 |_=>false
def VC(F:List Fact)(m:Nat)(μ:List (Nat×Int))(ρ:List (Option Nat))(a b:AR):Bool:=
 match b with
 |.gn=>false
 |.dead=>(match a with|.dead|.cells _|.arr _ _=>true|_=>false)
 |.bu=>false
 |.cells l'=>(match a with|.cells l=>dm (BP F m μ ρ 4) l l'|_=>false)
 |.arr n' e'=>T.hY e'&&T.mu e'&&notNil e'&&(match a with
  |.arr n e=>rk F m μ n n'&&dm (fH F 8) e e'
  |.cells l=>(let c:=l.length/e'.length
    decide (l.length=c*e'.length)&&rk F m μ (.aH 0 c) n'&&(pieces l e'.length c).all fun p=>dm (fH F 8) p e')
  |_=>false)
def nF(F:List Fact)(m:Nat)(μ:List (Nat×Int))(ρ:List (Option Nat))(R:List AR):List (Option Nat)→List AR→Bool
 |[],[]=>true
 |none::ps,.arr n e::bs=>rk F m μ (.aH 0 0) n&&notNil e&&nF F m μ ρ R ps bs
 |some i::ps,b::bs=>(match R[i]? with
  |some a=>VC F m μ ρ a b
  |none=>false)&&nF F m μ ρ R ps bs
 |_,_=>false
theorem zz{m:Nat}{μ:List (Nat×Int)}{ρ:List (Option Nat)}(hO:Ok θ S s rows)(h1:1≤m)(hm:m≤θ.length)(hH: ∀p∈μ,p.1<θ.length): ∀(ps:List (Option Nat)) (bs:List AR),nF S.F m μ ρ S.R ps bs=true→
  ∃rs:List Row,ae ρ rows ps rs∧bs.length=rs.length∧ ∀(i:Nat) a r,bs[i]?=some a→rs[i]?=some r→cX (gQ θ m μ) a r∧(a=.dead→r=.dead)
 |[],[],_=>⟨[],trivial,rfl,fun i a r h=>by simp at h⟩
 |[],_::_,h=>by simp[nF]at h
 |none::ps,[],h=>by simp[nF]at h
 |some i::ps,[],h=>by simp[nF]at h
 |none::ps,b::bs,h=>by
  have hz:=xN (μ:=μ) hO.zero h1
  cases b with
  |arr n e=>
   simp only[nF,apP]at h
   obtain⟨rs,q1,q2,q3⟩:=zz hO h1 hm hH ps bs h.2
   refine⟨.live []::rs,⟨rfl,q1⟩,by simp[q2],fun i a r ha hr=>?_⟩
   cases i with
   |zero=>
    simp at ha hr
    subst ha;subst hr
    exact⟨⟨ea h.1.2,⟨0,AW hO.zero hO.facts hm hH h.1.1 ⟨0,hO.zero,by simp⟩,by simp⟩,fun j t v _ b=>by simp at b⟩,fun h=>by cases h⟩
   |succ i=>exact q3 i a r (by simpa using ha) (by simpa using hr)
  |_=>simp[nF]at h
 |some i::ps,b::bs,h=>by
  have hz:=xN (μ:=μ) hO.zero h1
  simp only[nF,apP]at h
  obtain⟨ha,hb⟩:=h
  obtain⟨rs,q1,q2,q3⟩:=zz hO h1 hm hH ps bs hb
  split at ha
  ·rename_i a hR
   obtain⟨r,r1,r2⟩:=hO.cx.row hR
   have key: ∃r',nd false ρ r' r∧cX (gQ θ m μ) b r'∧(b=.dead→r'=.dead):=by
    unfold VC at ha
    split at ha
    ·cases ha
    ·refine⟨.dead,⟨?_,fun h=>by cases h⟩,fun h=>(by cases h),fun _=>rfl⟩
     split at ha
     ·exact r2
     ·rintro rfl;exact r2.elim
     ·rintro rfl;exact r2.elim
     ·cases ha
    ·cases ha
    ·split at ha
     ·rename_i l' _ l
      cases r with
      |live cs=>
       obtain⟨ws,w1,w2,w3⟩:=xM (fun t u v h hv=>Rn (ρ:=ρ) hO.zero hO.facts h1 hm hH 4 t u v h hv) ha r2.1 r2.2
       have afR: ∀{xs ys:List V},xs.length=ys.length→(∀(i:Nat) x y,xs[i]?=some x→ys[i]?=some y→Ren false ρ x y)→dI false ρ xs ys:=by
        intro xs
        induction xs with
        |nil=>intro ys hl _;cases ys with|nil=>trivial|cons y ys=>simp at hl
        |cons x xs ih=>
         intro ys hl h
         cases ys with
         |nil=>simp at hl
         |cons y ys=>exact⟨h 0 x y rfl rfl,ih (by simpa using hl) fun i a b p q=>h (i+1) a b (by simpa using p) (by simpa using q)⟩
       exact⟨.live ws,afR w2 w3,w1,fun h=>by cases h⟩
      |_=>exact r2.elim
     ·cases ha
    ·rename_i n' e'
     simp only[apP]at ha
     obtain⟨⟨⟨c1,c2⟩,c3⟩,ha⟩:=ha
     have fin: ∀{cs:List V} {mm:Nat},n'.Has (gQ θ m μ) (mm:Int)→cs.length=mm*e'.length→(∀(i:Nat) t v,e'[i%e'.length]?=some t→cs[i]?=some v→Has θ t v)→ ∃r',nd false ρ r' (.live cs)∧cX (gQ θ m μ) (.arr n' e') r'∧(AR.arr n' e'=.dead→r'=.dead):=by
      intro cs mm w1 w2 w3
      refine⟨.live cs,gM fun v hv=>?_,⟨ea c3,⟨mm,w1,w2⟩,fun i t v a b=>((w3 i t v a b).close hO.zero (T.fT c1 a)).GQ hz⟩,fun h=>by cases h⟩
      obtain⟨i,hi⟩:=aqm.1 hv
      obtain⟨t,ht⟩:=aC (l:=e') (i:=i%e'.length) (arc _ (jA c3))
      exact(w3 i t v ht hi).pure (T.gR c2 ht)
     split at ha
     ·rename_i n e
      simp only[apP]at ha
      obtain⟨d1,d2⟩:=ha
      cases r with
      |live cs=>
       obtain⟨k1,⟨mm,k2,k3⟩,k4⟩:=r2
       obtain⟨a1,a2⟩:=iJ d2
       refine fin (AW hO.zero hO.facts hm hH d1 k2) (by rw[k3,a1]) fun i t v a b=>?_
       rw[←a1]at a
       obtain⟨x,hx⟩:=aC (l:=e) (i:=i%e.length) (arc _ (aqj.2 k1))
       exact kf hO.zero hO.facts 8 x t v (a2 _ x t hx a) (k4 i x v hx b)
      |_=>exact r2.elim
     ·rename_i l
      simp only[apP,decide_eq_true_eq]at ha
      obtain⟨⟨d1,d2⟩,d3⟩:=ha
      cases r with
      |live cs=>
       have hl:l.length=cs.length:=r2.1
       refine fin (AW hO.zero hO.facts hm hH d2 ⟨0,hO.zero,by simp;rfl⟩) (by rw[←hl];exact d1) fun i t v a b=>?_
       obtain⟨x,hx⟩:=aC (l:=l) (i:=i) (by rw[hl];exact(apN.1 b).1)
       exact kf hO.zero hO.facts 8 x t v (xO rfl _ l d1 d3 i x t hx a) (r2.2 i x v hx b)
      |_=>exact r2.elim
     ·cases ha
   obtain⟨r',p1,p2⟩:=key
   refine⟨r'::rs,⟨⟨r,r1,p1⟩,q1⟩,by simp[q2],fun k a' q uC hq=>?_⟩
   cases k with
   |zero=>simp at uC hq;subst uC;subst hq;exact p2
   |succ k=>exact q3 k a' q (by simpa using uC) (by simpa using hq)
  ·cases ha
def Nn(F:List Fact)(m:Nat)(μ:List (Nat×Int))(f:Fact):Bool:=
 match BO m μ f.a,BO m μ f.b with
 |some (a,ca),some (b,cb)=>DA F 4 a f.k b (f.k*cb+f.c-ca)||(fq ((o0 F 4 a).map (· +ca)) ((nr F 4 b).map fun x=>f.k*(x+cb)+f.c)||
   CA (fun g=>Nat.beq g.b b&&(Nat.beq g.k f.k&&fq ((o0 F 4 a).map (· +ca)) ((nr F 4 g.a).map (· +(f.k*cb+f.c-g.c))))) F)
 |_,_=>false
def Ro(f g:Fact):Bool:=Nat.beq f.a g.a&&(Nat.beq f.k g.k&&(Nat.beq f.b g.b&&decide (f.c=g.c)))
def su:List Fact→List Fact→Bool
 |[],[]=>true
 |f::l,g::m=>Ro f g&&su l m
 |_,_=>false
theorem Ea: ∀{l m:List Fact},su l m=true→l=m
 |[],[],_=>rfl
 |[],_::_,h=>by simp[su]at h
 |_::_,[],h=>by simp[su]at h
 |f::l,g::m,h=>by
  simp only[su,Ro,apP,aqi,decide_eq_true_eq]at h
  obtain⟨⟨h1,h2,h3,h4⟩,h5⟩:=h
  rw[Ea h5]
  cases f;cases g
  simp only at h1 h2 h3 h4
  subst h1;subst h2;subst h3;subst h4
  rfl
def Fv(F:List Fact)(m:Nat)(μ:List (Nat×Int))(p:Nat)(G:List Fact):Bool:=
 (G.take p).all (Nn F m μ)&&su (G.drop p) (F.drop (F.length-(G.length-p)))&&(G.drop p).all fun f=>decide (f.a<m)&&decide (f.b<m)
def fixed:Nat→List (Option Nat)→Nat→Bool
 |0,_,_=>true
 |n+1,some i::l,k=>Nat.beq i k&&fixed n l (k+1)
 |_,_,_=>false
def Fw(F:List Fact)(m:Nat)(μ:List (Nat×Int))(ρ:List (Option Nat))(S J:SL):Bool:=Nat.beq S.length J.length&&J.l.all fun p=>BP F m μ ρ 4 (bN S p.1) p.2
theorem OR{m:Nat}{μ:List (Nat×Int)}{ρ:List (Option Nat)}(h0:θ[0]?=some 0)(hF:aM θ F)(h1:1≤m)(hm:m≤θ.length)(hH: ∀p∈μ,p.1<θ.length){S J:SL}(h:Fw F m μ ρ S J=true)(hs:j8 θ S s):
  ∃ws,j8 (gQ θ m μ) J ws∧ws.length=s.length∧ ∀(i:Nat) x y,ws[i]?=some x→s[i]?=some y→Ren false ρ x y:=by
 simp only[Fw,apP,aqi]at h
 obtain⟨hl,ha⟩:=h
 obtain⟨ws,w1,w2⟩:=lh (p:=fun i y=> ∀v,s[i]?=some v→Has (gQ θ m μ) (look J.l i) y∧Ren false ρ y v) s.length fun i hi=>by
  obtain⟨v,hv⟩:=aC hi
  rcases Jm (l:=J.l) (i:=i)with e|e
  ·rw[e];exact⟨.aa,fun _ _=>⟨.any,.aa rfl⟩⟩
  ·have hle:=ap1.1 ha _ e
   have hx:=hs.bN i
   rw[gb,hv]at hx
   obtain⟨y,q1,q2⟩:=Rn (ρ:=ρ) h0 hF h1 hm hH 4 _ _ _ hle hx
   exact⟨y,fun v' e2=>by rw[hv]at e2;obtain rfl:=apO e2;exact⟨q1,q2⟩⟩
 refine⟨ws,⟨by rw[←hl,hs.1,w1],fun i hi=>?_⟩,w1,fun i x y hx hy=>(w2 i x hx y hy).2⟩
 have pM:i<s.length:=by rw[←hs.1,hl];exact hi
 obtain⟨v,hv⟩:=aC pM
 obtain⟨x,hx⟩:=aC (l:=ws) (i:=i) (by omega)
 rw[gb,hx]
 exact(w2 i x hx v hv).1
def uS:List (Option Nat)→List AR→List (Option Nat)
 |o::l,a::R=>(bif OQ a then none else o)::uS l R
 |l,_=>l
theorem GR: ∀{l:List (Option Nat)} {R:List AR} {j:Nat} {a:AR},R[j]?=some a→a≠.dead→(uS l R)[j]?=l[j]?
 |[],[],j,a,h,_=>by simp at h
 |[],_::_,j,a,_,_=>by simp[uS]
 |_::_,[],j,a,h,_=>by simp at h
 |o::l,b::R,0,a,h,hn=>by
  simp at h
  subst h
  have:OQ b=false:=by cases b<;>simp_all[OQ]
  simp[uS,this]
 |o::l,b::R,j+1,a,h,hn=>by
  simp only[uS,aqM]
  exact GR (by simpa using h) hn
def MY(n0 m p:Nat)(μ:List (Nat×Int))(ρ:List (Option Nat))(S J:St):Bool:=
 decide (1≤m)&&(decide (m≤S.ng)&&(Nat.beq J.ng (m+μ.length)&&(μ.all (fun q=>decide (q.1<S.ng))&&(Fv S.F m μ p J.F&&(Fw S.F m μ ρ S.S J.S&&(nF S.F m μ ρ S.R ρ J.R&&(nodupB ((uS ρ J.R).filterMap fun x=>x)&&fixed n0 ρ 0)))))))
theorem JV: ∀(n:Nat) (l:List (Option Nat)) (k:Nat),fixed n l k=true→ ∀j,j<n→l[j]?=some (some (k+j))
 |0,_,_,_,j,hj=>by omega
 |n+1,[],_,h,_,_=>by simp[fixed]at h
 |n+1,none::l,_,h,_,_=>by simp[fixed]at h
 |n+1,some i::l,k,h,j,hj=>by
  simp only[fixed,apP,aqi]at h
  cases j with
  |zero=>simp[h.1]
  |succ j=>
   have:=JV n l (k+1) h.2 j (by omega)
   simp only[aqM]
   rw[this]
   congr 2
   omega
theorem OS{m p:Nat}{μ:List (Nat×Int)}{G:List Fact}(h0:θ[0]?=some 0)(hF:aM θ F)(hm:m≤θ.length)(hH: ∀p∈μ,p.1<θ.length)(h:Fv F m μ p G=true):aM (gQ θ m μ) G:=by
 simp only[Fv,apP]at h
 obtain⟨⟨h1,h2⟩,h3⟩:=h
 have e:=Ea h2
 intro f hf
 rw[←aqE p G]at hf
 rcases aqr.1 hf with hf|hf
 ·have:=ap1.1 h1 f hf
  unfold Nn at this
  split at this
  ·rename_i a ca b cb ha hb
   obtain⟨x,x1,x2⟩:=qO hm hH ha
   obtain⟨y,y1,y2⟩:=qO hm hH hb
   refine⟨_,_,x2,y2,?_⟩
   simp only[aqe]at this
   rcases this with h|h|h
   ·have:=wg h0 hF _ _ _ _ _ _ _ h x1 y1
    rw[Int.mul_add]
    omega
   rotate_left 1
   ·obtain⟨g,hg,h⟩:=Fi h
    simp only[apP,aqi]at h
    obtain⟨k1,k2,k3⟩:=h
    obtain⟨u,w,e1,e2,e3⟩:=fG k3
    simp only[ap0]at e1 e2
    obtain⟨u',e1,rfl⟩:=e1
    obtain⟨w',e2,rfl⟩:=e2
    obtain⟨gx,gy,z1,z2,z3⟩:=hF g hg
    rw[k1,y1]at z2
    obtain rfl:=apO z2
    have g1:=ta h0 hF _ _ _ _ e1 x1
    have g2:=tc h0 hF _ _ _ _ e2 z1
    rw[k2]at z3
    rw[Int.mul_add]
    omega
   ·obtain⟨u,w,e1,e2,e3⟩:=fG h
    simp only[ap0]at e1 e2
    obtain⟨u',e1,rfl⟩:=e1
    obtain⟨w',e2,rfl⟩:=e2
    have g1:=ta h0 hF _ _ _ _ e1 x1
    have g2:=tc h0 hF _ _ _ _ e2 y1
    have g3:(f.k:Int)*(w'+cb)≤f.k*(y+cb):=aqG (by omega) (aqS _)
    omega
  ·cases this
 ·have aO:=ap1.1 h3 f hf
  simp only[apP,decide_eq_true_eq]at aO
  rw[e]at hf
  obtain⟨x,y,x1,y1,hxy⟩:=hF f (arE hf)
  have low: ∀{g:Nat} {z:Int},g<m→θ[g]?=some z→(gQ θ m μ)[g]?=some z:=fun{g z} hg hz=>by
   obtain⟨w,w1,w2⟩:=qO (μ:=μ) hm hH (b:=g) (g:=g) (c:=0) (by simp[BO,hg])
   rw[hz]at w1
   obtain rfl:=apO w1
   simpa using w2
  exact⟨x,y,low aO.1 x1,low aO.2 y1,hxy⟩
theorem No{ρ:List (Option Nat)}: ∀{xs ys:List V},xs.length=ys.length→(∀(i:Nat) x y,xs[i]?=some x→ys[i]?=some y→Ren false ρ x y)→dI false ρ xs ys
 |[],[],_,_=>trivial
 |[],_::_,h,_=>by simp at h
 |_::_,[],h,_=>by simp at h
 |x::xs,y::ys,hl,h=>⟨h 0 x y rfl rfl,No (by simpa using hl) fun i a b p q=>h (i+1) a b (by simpa using p) (by simpa using q)⟩
theorem QN{n0 m p:Nat}{μ:List (Nat×Int)}{ρ:List (Option Nat)}(h:MY n0 m p μ ρ S J=true)(hO:Ok θ S s rows): ∃s' ad,Ok (gQ θ m μ) J s' ad∧Le n0 s rows s' ad:=by
 simp only[MY,apP,decide_eq_true_eq,aqi]at h
 obtain⟨h1,h2,h3,h4,h5,h6,h7,h8,h9⟩:=h
 have hm:m≤θ.length:=by rw[hO.ng];exact h2
 have hH: ∀p∈μ,p.1<θ.length:=fun p hp=>by
  have:=ap1.1 h4 p hp
  rw[hO.ng]
  simpa using this
 obtain⟨ws,w1,w2,w3⟩:=OR hO.zero hO.facts h1 hm hH h6 hO.bO
 obtain⟨rs,q1,q2,q3⟩:=zz hO h1 hm hH ρ J.R h7
 have afS:=zA (m:=uS ρ J.R) (l5 h8)
 have mS:jl ρ rs rows:=by
  obtain⟨o1,o2,o3⟩:=iP q1
  refine⟨o1,fun j j' i cs iy a b c d=>?_,o2,o3⟩
  have live: ∀{j:Nat} {cs:List V},rs[j]?=some (.live cs)→(uS ρ J.R)[j]?=ρ[j]?:=fun{j cs} h=>by
   obtain⟨x,hx⟩:=aC (l:=J.R) (i:=j) (by rw[q2];exact(apN.1 h).1)
   exact GR hx fun e=>by have:=(q3 j x _ hx h).2 e;cases this
  exact afS j j' i (by rw[live c];exact a) (by rw[live d];exact b)
 refine⟨ws,rs,⟨xN hO.zero h1,?_,OS hO.zero hO.facts hm hH h5,w1,q2,fun i a r x y=>(q3 i a r x y).1⟩,Le.mk ρ (No w2 w3) mS fun j hj=>?_⟩
 ·rw[h3];simp[gQ];omega
 ·have:=JV n0 ρ 0 h9 j hj
  rwa[aq6]at this
theorem AH{m:Nat}{μ:List (Nat×Int)}{θ' z:List Int}(h:θ=θ'++z)(hm:θ'.length≤m): ∃z',gQ θ m μ=θ'++z':=by
 subst h
 unfold gQ
 rw[List.take_append,apR hm]
 exact⟨_,by rw[ap3]⟩
end
end
end Go.Ck
