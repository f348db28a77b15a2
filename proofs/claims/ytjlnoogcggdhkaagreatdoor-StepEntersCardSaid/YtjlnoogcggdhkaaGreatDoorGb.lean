/-
 VALUE SEMANTICS, 10: contracts of functions; views of rows as read-only memory; rows under other numbers.
 Conditions: none.
-/
import Derived.Test.YtjlnoogcggdhkaaGreatDoorGa
set_option linter.all false
namespace Go.VS
def Enters(P:Program)(f:FuncId):Prop:= ∀args w,(callFunc f args).run P w=.ok (.enter f args) w
def iL(P:Program)(c:Ctx):Prop:= ∀g,P.globalNamed "internal/bytealg.MaxLen"=some g→c.ro g∧ ∃m,c.w.cell? ⟨g,0,none⟩=some (.int .i64 m)
theorem iL.at{P:Program}{c:Ctx}{rows:List Row}{w:World}{ro aY:Nat→Prop}{ρ ρ':bP}(go:iL P c)(g:Good c rows w ro ρ)(h: ∀b,ro b→aY b):iL P ⟨w,aY,ρ'⟩:=by
 intro k hk
 obtain⟨h1,m,h2⟩:=go k hk
 refine⟨h _ (g.ext.fg k h1),m,?_⟩
 show w.cell? _=_
 have:=g.ext.heap k h1
 unfold World.cell? at h2⊢
 simp only[this]
 exact h2
theorem iL.none{P:Program}{c:Ctx}(h:P.globalNamed "internal/bytealg.MaxLen"=none):iL P c:=fun g hg=>by rw[h]at hg;simp at hg
def cO(P:Program)(f:FuncId)(args:List V)(rows:List Row)(R:V→List Row→Prop):Prop:=
 Enters P f∧ ∀(w:World) (ro:Nat→Prop) (ρ:bP) (vs:Array Value),Good ⟨w,ro,ρ⟩ rows w ro ρ→iL P ⟨w,ro,ρ⟩→bh w ro ρ vs.toList args→
  Calls P f vs w fun e w'=> ∃v r ad aY ρ',e=.returned v∧R r ad∧Good ⟨w,ro,ρ⟩ ad w' aY ρ'∧Rd w' aY ρ' v r
def ao(P:Program)(f:FuncId)(args:List V)(r:V):Prop:=r.Pure∧cO P f args [] fun r' _=>r'=r
theorem cO.mono{P:Program}{f:FuncId}{args:List V}{rows:List Row}{R R':V→List Row→Prop}(h:cO P f args rows R)(hr: ∀r ad,R r ad→R' r ad):cO P f args rows R':=
 ⟨h.1,fun w ro ρ vs g go ha=>(h.2 w ro ρ vs g go ha).mono fun e w' ⟨v,r,ad,aY,ρ',h1,h2,h3⟩=>⟨v,r,ad,aY,ρ',h1,hr _ _ h2,h3⟩⟩
inductive V.Flat : V → Prop
 |bool {b}:Flat (.bool b)
 |int {k n}:Flat (.int k n)
 |str {s}:Flat (.str s)
 |bR:Flat .bR
 |aj:Flat .aj
 |aq:Flat .aq
 |cL:Flat .cL
 |val {u}:Flat (.val u)
 |aa:Flat .aa
 |iface {t x}:Flat x→Flat (.iface t x)
 |agg {c}:(∀x∈c,Flat x)→Flat (.agg c)
 |aB {c}:(∀x∈c,Flat x)→Flat (.aB c)
attribute [simp] V.Flat.bool V.Flat.int V.Flat.str V.Flat.bR V.Flat.aj V.Flat.aq V.Flat.cL V.Flat.val V.Flat.aa
@[simp] theorem V.flat_agg{c:List V}:(V.agg c).Flat↔ ∀x∈c,x.Flat:=⟨fun h=>by cases h;assumption,.agg⟩
@[simp] theorem V.UO{c:List V}:(V.aB c).Flat↔ ∀x∈c,x.Flat:=⟨fun h=>by cases h;assumption,.aB⟩
@[simp] theorem V.PB{t:TypeId}{x:V}:(V.iface t x).Flat↔x.Flat:=⟨fun h=>by cases h;assumption,.iface⟩
theorem Rd.flat{w:World}{ro:Nat→Prop}{ρ:bP}{u:Value}{x:V}(h:Rd w ro ρ u x):x.Flat→ ∀(w':World) (aY:Nat→Prop) (ρ':bP),Rd w' aY ρ' u x:=by
 induction h with
 |bool=>exact fun _ _ _ _=>.bool
 |int=>exact fun _ _ _ _=>.int
 |str=>exact fun _ _ _ _=>.str
 |bR=>exact fun _ _ _ _=>.bR
 |ref=>intro h;cases h
 |aL=>intro h;cases h
 |aj=>exact fun _ _ _ _=>.aj
 |lB=>intro h;cases h
 |oO=>intro h;cases h
 |sl=>intro h;cases h
 |iw=>intro h;cases h
 |av=>intro h;cases h
 |fn=>intro h;cases h
 |aq=>exact fun _ _ _ _=>.aq
 |kt=>intro h;cases h
 |cL=>exact fun _ _ _ _=>.cL
 |iface _ ih=>exact fun hp w' aY ρ'=>.iface (ih (V.PB.1 hp) w' aY ρ')
 |agg h1 _ ih=>exact fun hp w' aY ρ'=>.agg h1 fun i u x hu hx=>ih i u x hu hx (V.flat_agg.1 hp x (mem_of_getElem? hx)) w' aY ρ'
 |aB h1 _ ih=>exact fun hp w' aY ρ'=>.aB h1 fun i u x hu hx=>ih i u x hu hx (V.UO.1 hp x (mem_of_getElem? hx)) w' aY ρ'
 |val=>exact fun _ _ _ _=>.val
 |aa=>exact fun _ _ _ _=>.aa
inductive View (rows : List Row) : V → V → Prop
 |pure {x}:x.Pure→View rows x x
 |aa {x}:View rows x .aa
 |av {id off n sz cs iy}:rows[id]?=some (.live cs)→off+n*sz≤cs.length→iy.length=n*sz→
   (∀(i:Nat) x y,cs[off+i]?=some x→iy[i]?=some y→View rows x y)→View rows (.av id off n sz) (.sl n iy)
 |ref {id off cs iy}:rows[id]?=some (.live cs)→cs≠ []→off+iy.length≤cs.length→
   (∀(i:Nat) x y,cs[off+i]?=some x→iy[i]?=some y→View rows x y)→View rows (.ref id off) (.aL iy)
 |fn {f c d}:c.length=d.length→(∀(i:Nat) x y,c[i]?=some x→d[i]?=some y→View rows x y)→View rows (.fn f c) (.fn f d)
 |iface {t x y}:View rows x y→View rows (.iface t x) (.iface t y)
 |agg {c d}:c.length=d.length→(∀(i:Nat) x y,c[i]?=some x→d[i]?=some y→View rows x y)→View rows (.agg c) (.agg d)
 |aB {c d}:c.length=d.length→(∀(i:Nat) x y,c[i]?=some x→d[i]?=some y→View rows x y)→View rows (.aB c) (.aB d)
def nP(ro:Nat→Prop)(ρ:bP)(b:Nat):Prop:=ro b∨ ∃(id:Nat) (x:tO),ρ[id]?=some (.on x)∧x.b=b
theorem aC{α:Type}{l:List α}{i:Nat}(h:i<l.length): ∃x,l[i]?=some x:=⟨l[i],by simp[h]⟩
theorem View.rd{c:Ctx}{rows:List Row}{w:World}{ro:Nat→Prop}{ρ:bP}(g:Good c rows w ro ρ){x y:V}(h:View rows x y): ∀{u:Value},Rd w ro ρ u x→ ∀ρ',Rd w (nP ro ρ) ρ' u y:=by
 induction h with
 |pure hp=>
  intro u hu ρ'
  have h1:=hu.pure hp ([]:bP)
  exact h1.ext ⟨fun _ h=>.inl h,fun _ _=>rfl,fun id y h=>by simp at h⟩
 |aa=>exact fun _ _=>.aa
 |@av id off n sz cs iy h1 h2 h3 _ ih=>
  intro u hu ρ'
  rcases vO g hu h1 with⟨rfl,rfl,rfl,-⟩|⟨y,o,cap,hy,bA,rfl,ho,hn,hm⟩
  ·have:iy=[]:=apW (by simpa using h3)
   subst this
   exact .lB
  ·by_cases yp:cap=0
   ·subst yp
    obtain rfl:n=0:=by omega
    have:iy=[]:=apW (by simpa using h3)
    subst this
    exact ct.sl (fun i v hv=>by simp at hv) (.inr ⟨id,y,hy,rfl⟩) (aqf _)
   ·obtain rfl:o=y.o+off:=by rcases ho with h|h;exact absurd h yp;exact h
    refine ct.sl (fun i v hv=>?_) (.inr ⟨id,y,hy,rfl⟩) hn
    have aO:=(apN.1 hv).1
    obtain⟨x,hx⟩:=aC (l:=cs) (i:=off+i) (by omega)
    obtain⟨q,hq,hr⟩:=bA.pR (off+i) x hx
    exact⟨q,by rwa[show y.o+(off+i)=y.o+off+i by omega]at hq,ih i x v hx hv hr []⟩
 |@ref id off cs iy h1 h2 h3 _ ih=>
  intro u hu ρ'
  obtain⟨y,hy,bA,rfl⟩:=vP g hu h1
  refine ct.aL (fun i v hv=>?_) (.inr ⟨id,y,hy,rfl⟩)
  have aO:=(apN.1 hv).1
  obtain⟨x,hx⟩:=aC (l:=cs) (i:=off+i) (by omega)
  obtain⟨q,hq,hr⟩:=bA.pR (off+i) x hx
  exact⟨q,by rwa[show y.o+(off+i)=y.o+off+i by omega]at hq,ih i x v hx hv hr []⟩
 |fn hl _ ih=>
  intro u hu ρ'
  cases hu with
  |fn h0 h1 h2=>
   refine .fn h0 (h1.trans hl) fun i u y hu hy=>?_
   obtain⟨x,hx⟩:=aC (i:=i) (by rw[hl];exact(apN.1 hy).1)
   exact ih i x y hx hy (h2 i u x hu hx) ρ'
 |iface _ ih=>
  intro u hu ρ'
  cases hu with
  |iface h=>exact .iface (ih h ρ')
 |agg hl _ ih=>
  intro u hu ρ'
  cases hu with
  |agg h1 h2=>
   refine .agg (h1.trans hl) fun i u y hu hy=>?_
   obtain⟨x,hx⟩:=aC (i:=i) (by rw[hl];exact(apN.1 hy).1)
   exact ih i x y hx hy (h2 i u x hu hx) ρ'
 |aB hl _ ih=>
  intro u hu ρ'
  cases hu with
  |aB h1 h2=>
   refine .aB (h1.trans hl) fun i u y hu hy=>?_
   obtain⟨x,hx⟩:=aC (i:=i) (by rw[hl];exact(apN.1 hy).1)
   exact ih i x y hx hy (h2 i u x hu hx) ρ'
theorem View.row{rows:List Row}{id n sz:Nat}{cs:List V}(h:rows[id]?=some (.live cs))(hl:cs.length=n*sz)(hp: ∀x∈cs,x.Pure):View rows (.av id 0 n sz) (.sl n cs):=
 .av h (by omega) hl fun i x y hx hy=>by
  rw[aq6,hy]at hx
  simp at hx
  subst hx
  exact .pure (hp _ (mem_of_getElem? hy))
theorem View.part{rows:List Row}{id off n sz:Nat}{cs:List V}(h:rows[id]?=some (.live cs))(hl:off+n*sz≤cs.length)(hp: ∀x∈cs,x.Pure):View rows (.av id off n sz) (.sl n ((cs.drop off).take (n*sz))):=
 .av h hl (by simp;omega) fun i x y hx hy=>by
  rw[aqc]at hy
  split at hy
  ·rw[aqb,hx]at hy
   simp at hy
   subst hy
   exact .pure (hp _ (mem_of_getElem? hx))
  ·simp at hy
theorem View.cell{rows:List Row}{id off:Nat}{cs:List V}(h:rows[id]?=some (.live cs))(hn:cs≠ [])(hl:off≤cs.length)(hp: ∀x∈cs,x.Pure):View rows (.ref id off) (.aL (cs.drop off)):=
 .ref h hn (by simp;omega) fun i x y hx hy=>by
  rw[aqb,hx]at hy
  simp at hy
  subst hy
  exact .pure (hp _ (mem_of_getElem? hx))
def eZ(rows:List Row):List V→List V→Prop
 |[],[]=>True
 |x::xs,y::ys=>View rows x y∧eZ rows xs ys
 |_,_=>False
theorem eZ.get{rows:List Row}: ∀{xs ys:List V},eZ rows xs ys→xs.length=ys.length∧ ∀(i:Nat) x y,xs[i]?=some x→ys[i]?=some y→View rows x y
 |[],[],_=>⟨rfl,fun i x y h=>by simp at h⟩
 |[],_::_,h=>h.elim
 |_::_,[],h=>h.elim
 |x::xs,y::ys,h=>by
  obtain⟨h1,h2⟩:=eZ.get h.2
  refine⟨by simp[h1],fun i a b ha hb=>?_⟩
  cases i with
  |zero=>simp at ha hb;subst ha;subst hb;exact h.1
  |succ i=>exact h2 i a b (by simpa using ha) (by simpa using hb)
theorem eZ.self{rows:List Row}: ∀{xs:List V},(∀x∈xs,x.Pure)→eZ rows xs xs
 |[],_=>trivial
 |x::xs,h=>⟨.pure (h x (by simp)),eZ.self fun y hy=>h y (by simp[hy])⟩
theorem eZ.pI{c:Ctx}{rows:List Row}{w:World}{ro:Nat→Prop}{ρ:bP}(g:Good c rows w ro ρ){us:List Value}{xs ys:List V}(h:eZ rows xs ys)(hu:bh w ro ρ us xs)(ρ':bP):bh w (nP ro ρ) ρ' us ys:=by
 obtain⟨h1,h2⟩:=h.get
 refine⟨hu.1.trans h1,fun i u y hi hy=>?_⟩
 obtain⟨x,hx⟩:=aC (l:=xs) (i:=i) (by rw[h1];exact(apN.1 hy).1)
 exact(h2 i x y hx hy).rd g (hu.2 i u x hi hx) ρ'
theorem Good.start{w:World}{ro:Nat→Prop}(h: ∀b,ro b→b<w.heap.size):Good ⟨w,ro,[]⟩ [] w ro []:=
 ⟨rfl,rfl,rfl,aqf _,fun _ _ _=>rfl,h,fun b hb=>.inl hb,rfl,fun id x h=>by simp at h,fun i j x y h=>by simp at h,fun id r h=>by simp at h,Ext.refl _ _ _⟩
theorem Good.Rp{c:Ctx}{rows:List Row}{w:World}{ro aY:Nat→Prop}{ρ:bP}(g:Good c rows w ro ρ)(hk: ∀b,ro b→aY b)
  (hn: ∀b,aY b→ro b∨(b<w.heap.size∧(∀(id:Nat) x,ρ[id]?=some (.on x)→x.b≠b)∧(c.may b∨c.w.heap.size≤b))):Good c rows w aY ρ∧Ext w ro ρ w aY ρ:=by
 have cY:Ext w ro ρ w aY ρ:=⟨hk,fun _ _=>rfl,fun id y h _=>⟨y,h,.inr rfl⟩⟩
 refine⟨⟨g.os,g.tape,g.output,g.size,g.eW,fun b hb=>?_,fun b hb=>?_,g.len,fun j y hy=>⟨(g.cK j y hy).1,fun h=>?_⟩,g.inj,fun j r hr=>?_,g.ext.trans cY⟩,cY⟩
 ·rcases hn b hb with h|h
  ·exact g.iN b h
  ·exact h.1
 ·rcases hn b hb with h|h
  ·exact g.gW b h
  ·exact .inr h.2.2
 ·rcases hn _ h with h|h
  ·exact(g.cK j y hy).2 h
  ·exact h.2.1 j y hy rfl
 ·have:=g.row j r hr
  cases r with
  |bu=>exact this
  |dead=>exact this
  |live ds=>
   rcases this with⟨y,hy,bA⟩|hv
   ·exact .inl ⟨y,hy,bA.ext cY rfl⟩
   ·exact .inr hv
def Sh(P:Program)(f:FuncId)(args:List V)(rows:List Row)(k:KV):Prop:=
 (∃fZ r,eZ rows args fZ∧ao P f fZ r∧r.Flat∧k r rows)∨(∃r,(∀x∈args,x.Pure)∧ao P f args r∧k r rows)
theorem KT{P:Program}{c:Ctx}{rows:List Row}{w:World}{ro:Nat→Prop}{ρ:bP}{k:KV}{f:FuncId}{args:List V}{vs:Array Value}(go:iL P c)(g:Good c rows w ro ρ)(ha:bh w ro ρ vs.toList args)
  (h:Sh P f args rows k):Enters P f∧Calls P f vs w fun e w'=> ∃v,e=.returned v∧lU c k w ro ρ v w':=by
 rcases h with⟨fZ,r,hv,⟨hp,p6,dC⟩,Bt,hk⟩|⟨r,hpa,⟨hp,p6,dC⟩,hk⟩
 ·refine⟨p6,?_⟩
  have pf: ∀b,¬(Ctx.may ⟨w,nP ro ρ,[]⟩ b):=fun b ⟨id,x,h,_⟩=>by simp at h
  have aO: ∀b,nP ro ρ b→b<w.heap.size:=by
   rintro b (h|⟨id,x,h,rfl⟩)
   ·exact g.iN b h
   ·exact g.oP h
  refine(dC w (nP ro ρ) [] vs (Good.start aO) (go.at g fun b hb=>.inl hb) (hv.pI g ha [])).mono ?_
  rintro e w' ⟨v,r',ad,aY,ρ',rfl,rfl,g',hr⟩
  obtain⟨g1,e1⟩:=g.world g'.os g'.tape g'.output g'.size fun b hb _=>g'.eW b hb (pf b)
  exact⟨v,rfl,r',rows,ro,ρ,hk,g1,hr.flat Bt _ _ _,e1⟩
 ·refine⟨p6,?_⟩
  have pf: ∀b,¬(Ctx.may ⟨w,ro,[]⟩ b):=fun b ⟨id,x,h,_⟩=>by simp at h
  have uC:bh w ro [] vs.toList args:=⟨ha.1,fun i u x hu hx=>(ha.2 i u x hu hx).pure (hpa x (mem_of_getElem? hx)) []⟩
  refine(dC w ro [] vs (Good.start g.iN) (go.at g fun b hb=>hb) uC).mono ?_
  rintro e w' ⟨v,r',ad,aY,ρ',rfl,rfl,g',hr⟩
  obtain⟨g1,e1⟩:=g.world g'.os g'.tape g'.output g'.size fun b hb _=>g'.eW b hb (pf b)
  obtain⟨g2,e2⟩:=g1.Rp (aY:=aY) (fun b hb=>g'.ext.fg b hb) (fun b hb=>by
   rcases g'.gW b hb with h|h|h
   ·exact .inl h
   ·exact absurd h (pf b)
   ·exact .inr ⟨g'.iN b hb,fun id x hx he=>by have:=g.oP hx;simp at h;omega,.inr (aqD g.size h)⟩)
  exact⟨v,rfl,r',rows,aY,ρ,hk,g2,hr.pure hp ρ,e1.trans e2⟩
end Go.VS
set_option linter.all false
namespace Go.VS
inductive Ren (ex : Bool) (m : List (Option Nat)) : V → V → Prop
 |pure {x}:x.Pure→Ren ex m x x
 |aa {x}:ex=false→Ren ex m .aa x
 |nil {j o s}:ex=false→m[j]?=some none→Ren ex m (.av j o 0 s) .aj
 |ref {j i o}:m[j]?=some (some i)→Ren ex m (.ref j o) (.ref i o)
 |av {j i o n s}:m[j]?=some (some i)→Ren ex m (.av j o n s) (.av i o n s)
 |fn {f c d}:c.length=d.length→(∀(i:Nat) x y,c[i]?=some x→d[i]?=some y→Ren ex m x y)→Ren ex m (.fn f c) (.fn f d)
 |kt {ps a b} {c d:List V}:(∃(k id off:Nat),c[k]?=some (V.ref id off))→(∃(k id off:Nat),d[k]?=some (V.ref id off))→c.length=d.length→(∀(i:Nat) x y,c[i]?=some x→d[i]?=some y→Ren ex m x y)→Ren ex m (.kt ps a b c) (.kt ps a b d)
 |iface {t x y}:Ren ex m x y→Ren ex m (.iface t x) (.iface t y)
 |agg {c d}:c.length=d.length→(∀(i:Nat) x y,c[i]?=some x→d[i]?=some y→Ren ex m x y)→Ren ex m (.agg c) (.agg d)
 |aB {c d}:c.length=d.length→(∀(i:Nat) x y,c[i]?=some x→d[i]?=some y→Ren ex m x y)→Ren ex m (.aB c) (.aB d)
def dI(ex:Bool)(m:List (Option Nat)):List V→List V→Prop
 |[],[]=>True
 |x::xs,y::ys=>Ren ex m x y∧dI ex m xs ys
 |_,_=>False
theorem dI.get{ex:Bool}{m:List (Option Nat)}: ∀{xs ys:List V},dI ex m xs ys→xs.length=ys.length∧ ∀(i:Nat) x y,xs[i]?=some x→ys[i]?=some y→Ren ex m x y
 |[],[],_=>⟨rfl,fun i x y h=>by simp at h⟩
 |[],_::_,h=>h.elim
 |_::_,[],h=>h.elim
 |x::xs,y::ys,h=>by
  obtain⟨h1,h2⟩:=dI.get h.2
  refine⟨by simp[h1],fun i a b ha hb=>?_⟩
  cases i with
  |zero=>simp at ha hb;subst ha;subst hb;exact h.1
  |succ i=>exact h2 i a b (by simpa using ha) (by simpa using hb)
theorem dI.self{ex:Bool}{m:List (Option Nat)}: ∀{xs:List V},(∀x∈xs,x.Pure)→dI ex m xs xs
 |[],_=>trivial
 |x::xs,h=>⟨.pure (h x (by simp)),dI.self fun y hy=>h y (by simp[hy])⟩
theorem Rd.F7{w:World}{ro:Nat→Prop}{ρ ρ':bP}{m:List (Option Nat)}{ex:Bool}{x' x:V}(h:Ren ex m x' x)
  (h1: ∀(j i:Nat) y,m[j]?=some (some i)→ρ[i]?=some y→y≠.bu→ ∃y',ρ'[j]?=some y'∧(y'=.dead∨y'=y)) (h2: ∀(j:Nat),m[j]?=some none→ρ'[j]?=some .mU):
  ∀{u:Value},Rd w ro ρ u x→Rd w ro ρ' u x':=by
 induction h with
 |pure hp=>exact fun hu=>hu.pure hp _
 |aa=>exact fun _=>.aa
 |nil _ hm=>
  intro u hu
  obtain rfl:=gX hu
  exact .iw (h2 _ hm) (fun h=>by cases h) (fun x h=>by cases h)
 |ref hm=>
  intro u hu
  cases hu with
  |ref q1 q2 q3 q4=>
   obtain⟨y',pB,hc⟩:=h1 _ _ _ hm q1 q2
   rcases hc with rfl|rfl
   ·exact .ref pB (fun h=>by cases h) (fun h=>by cases h) (fun x hx=>by cases hx)
   ·exact .ref pB q2 q3 q4
 |av hm=>
  intro u hu
  cases hu with
  |iw q1 q2 q3=>
   obtain⟨y',pB,hc⟩:=h1 _ _ _ hm q1 q2
   rcases hc with rfl|rfl
   ·exact .iw pB (fun h=>by cases h) (fun x hx=>by cases hx)
   ·exact .iw pB q2 q3
  |av q1 q2 q3 KN q4=>
   obtain⟨y',pB,hc⟩:=h1 _ _ _ hm q1 q2
   rcases hc with rfl|rfl
   ·exact .av pB (fun h=>by cases h) (fun h=>by cases h) KN (fun x hx=>by cases hx)
   ·exact .av pB q2 q3 KN q4
 |fn hl _ ih=>
  intro u hu
  cases hu with
  |fn q0 q1 q2=>
   refine .fn q0 (q1.trans hl.symm) fun i u x hu hx=>?_
   obtain⟨y,hy⟩:=aC (i:=i) (by rw[←hl];exact(apN.1 hx).1)
   exact ih i x y hx hy (q2 i u y hu hy)
 |kt hk nA hl _ ih=>
  intro u hu
  obtain⟨k,id,off,hk⟩:=hk
  cases hu with
  |kt g1 g2 g3 g4 g5 q1 q2=>
   refine .kt g1 g2 g3 g4 hk (q1.trans hl.symm) fun i u x hu hx=>?_
   obtain⟨y,hy⟩:=aC (i:=i) (by rw[←hl];exact(apN.1 hx).1)
   exact ih i x y hx hy (q2 i u y hu hy)
 |iface _ ih=>
  intro u hu
  cases hu with
  |iface h=>exact .iface (ih h)
 |agg hl _ ih=>
  intro u hu
  cases hu with
  |agg q1 q2=>
   refine .agg (q1.trans hl.symm) fun i u x hu hx=>?_
   obtain⟨y,hy⟩:=aC (i:=i) (by rw[←hl];exact(apN.1 hx).1)
   exact ih i x y hx hy (q2 i u y hu hy)
 |aB hl _ ih=>
  intro u hu
  cases hu with
  |aB q1 q2=>
   refine .aB (q1.trans hl.symm) fun i u x hu hx=>?_
   obtain⟨y,hy⟩:=aC (i:=i) (by rw[←hl];exact(apN.1 hx).1)
   exact ih i x y hx hy (q2 i u y hu hy)
theorem dI.pI{w:World}{ro:Nat→Prop}{ρ ρ':bP}{m:List (Option Nat)}{ex:Bool}{xs' xs:List V}{us:List Value}(h:dI ex m xs' xs)
  (h1: ∀(j i:Nat) y,m[j]?=some (some i)→ρ[i]?=some y→y≠.bu→ ∃y',ρ'[j]?=some y'∧(y'=.dead∨y'=y)) (h2: ∀(j:Nat),m[j]?=some none→ρ'[j]?=some .mU)
  (hu:bh w ro ρ us xs):bh w ro ρ' us xs':=by
 obtain⟨q1,q2⟩:=h.get
 refine⟨hu.1.trans q1.symm,fun i u x hi hx=>?_⟩
 obtain⟨y,hy⟩:=aC (l:=xs) (i:=i) (by rw[←q1];exact(apN.1 hx).1)
 exact Rd.F7 (q2 i x y hx hy) h1 h2 (hu.2 i u y hi hy)
theorem Rd.VV{w:World}{ro:Nat→Prop}{ρ ρ':bP}{m:List (Option Nat)}{x' x:V}(h:Ren true m x' x)
  (h1: ∀(j i:Nat) y,m[j]?=some (some i)→ρ'[j]?=some y→ρ[i]?=some y): ∀{u:Value},Rd w ro ρ' u x'→Rd w ro ρ u x:=by
 generalize hex:true=ex at h
 induction h with
 |pure hp=>exact fun hu=>hu.pure hp _
 |aa h=>subst hex;cases h
 |nil h=>subst hex;cases h
 |ref hm=>
  intro u hu
  cases hu with
  |ref q1 q2 q3 q4=>exact .ref (h1 _ _ _ hm q1) q2 q3 q4
 |av hm=>
  intro u hu
  cases hu with
  |iw q1 q2 q3=>exact .iw (h1 _ _ _ hm q1) q2 q3
  |av q1 q2 q3 KN q4=>exact .av (h1 _ _ _ hm q1) q2 q3 KN q4
 |fn hl _ ih=>
  intro u hu
  cases hu with
  |fn q0 q1 q2=>
   refine .fn q0 (q1.trans hl) fun i u y hu hy=>?_
   obtain⟨x,hx⟩:=aC (i:=i) (by rw[hl];exact(apN.1 hy).1)
   exact ih i x y hx hy (q2 i u x hu hx)
 |kt hk nA hl _ ih=>
  intro u hu
  obtain⟨k,id,off,nA⟩:=nA
  cases hu with
  |kt g1 g2 g3 g4 g5 q1 q2=>
   refine .kt g1 g2 g3 g4 nA (q1.trans hl) fun i u y hu hy=>?_
   obtain⟨x,hx⟩:=aC (i:=i) (by rw[hl];exact(apN.1 hy).1)
   exact ih i x y hx hy (q2 i u x hu hx)
 |iface _ ih=>
  intro u hu
  cases hu with
  |iface h=>exact .iface (ih h)
 |agg hl _ ih=>
  intro u hu
  cases hu with
  |agg q1 q2=>
   refine .agg (q1.trans hl) fun i u y hu hy=>?_
   obtain⟨x,hx⟩:=aC (i:=i) (by rw[hl];exact(apN.1 hy).1)
   exact ih i x y hx hy (q2 i u x hu hx)
 |aB hl _ ih=>
  intro u hu
  cases hu with
  |aB q1 q2=>
   refine .aB (q1.trans hl) fun i u y hu hy=>?_
   obtain⟨x,hx⟩:=aC (i:=i) (by rw[hl];exact(apN.1 hy).1)
   exact ih i x y hx hy (q2 i u x hu hx)
def nd(ex:Bool)(m:List (Option Nat)):Row→Row→Prop
 |.dead,r=>r≠.bu∧(ex=true→r=.dead)
 |.live iy,.live cs=>dI ex m iy cs
 |_,_=>False
structure jl (m : List (Option Nat)) (ad rows : List Row) : Prop where
 len:ad.length=m.length
 inj: ∀(j j' i:Nat) {cs iy:List V},m[j]?=some (some i)→m[j']?=some (some i)→ad[j]?=some (.live cs)→ad[j']?=some (.live iy)→j=j'
 eW: ∀(j i:Nat) r',m[j]?=some (some i)→ad[j]?=some r'→ ∃r,rows[i]?=some r∧nd false m r' r
 new: ∀(j:Nat) r',m[j]?=some none→ad[j]?=some r'→r'=.live []
def jG(m:List (Option Nat))(ad:List Row)(ρ:bP):bP:=
 m.zipIdx.map fun(q:Option Nat×Nat)=>match q.1 with
  |none=>.mU
  |some i=>match ad[q.2]? with
   |some (.live _)=>(ρ[i]?).getD .dead
   |_=>.dead
theorem pE{m:List (Option Nat)}{ad:List Row}{ρ:bP}{j:Nat}:(jG m ad ρ)[j]?=(m[j]?).map fun q=>match q with
  |none=>.mU
  |some i=>match ad[j]? with
   |some (.live _)=>(ρ[i]?).getD .dead
   |_=>.dead:=by
 unfold jG
 rw[apZ,List.getElem?_zipIdx]
 cases m[j]?<;>simp
theorem B5{m:List (Option Nat)}{ad:List Row}{ρ:bP}{j:Nat}{x:tO}(hj:(jG m ad ρ)[j]?=some (.on x)): ∃cs,ad[j]?=some (.live cs):=by
 rw[pE]at hj
 cases ub:m[j]? with
 |none=>simp[ub]at hj
 |some q=>
  cases q with
  |none=>simp[ub]at hj
  |some i=>
   simp only[ub,aqU]at hj
   split at hj
   ·rename_i cs h;exact⟨cs,h⟩
   ·simp at hj
theorem Ae{m:List (Option Nat)}{ad:List Row}{ρ:bP}{j:Nat}{x:tO}(hj:(jG m ad ρ)[j]?=some (.on x)): ∃i,m[j]?=some (some i)∧ρ[i]?=some (.on x):=by
 rw[pE]at hj
 cases ub:m[j]? with
 |none=>simp[ub]at hj
 |some q=>
  cases q with
  |none=>simp[ub]at hj
  |some i=>
   refine⟨i,rfl,?_⟩
   simp only[ub,aqU]at hj
   split at hj
   ·cases kc:ρ[i]? with
    |none=>simp[kc]at hj
    |some y=>simp[kc]at hj;rw[hj]
   ·simp at hj
section
variable {c : Ctx} {rows ad : List Row} {w : World} {ro : Nat → Prop} {ρ : bP} {m : List (Option Nat)}
theorem jl.fwd(hm:jl m ad rows)(g:Good c rows w ro ρ):(∀(j i:Nat) y,m[j]?=some (some i)→ρ[i]?=some y→y≠.bu→ ∃y',(jG m ad ρ)[j]?=some y'∧(y'=.dead∨y'=y))∧
  ∀(j:Nat),m[j]?=some none→(jG m ad ρ)[j]?=some .mU:=by
 refine⟨fun j i y hj hy _=>?_,fun j hj=>by rw[pE,hj];rfl⟩
 rw[pE,hj]
 simp only[aqU,hy,arj]
 split
 ·exact⟨y,rfl,.inr rfl⟩
 ·exact⟨.dead,rfl,.inl rfl⟩
theorem Good.F7(g:Good c rows w ro ρ)(hm:jl m ad rows){c':Ctx}(KE:w.os=c'.w.os)(acu:w.tape=c'.w.tape)(iO:w.output=c'.w.output)(acv:c'.w.heap.size≤w.heap.size)
  (hold: ∀b,b<c'.w.heap.size→ ¬c'.may b→w.heap[b]?=c'.w.heap[b]?) (aaV: ∀b,ro b→c'.ro b∨c'.may b∨c'.w.heap.size≤b)
  (age: ∀(j:Nat) x,(jG m ad ρ)[j]?=some (.on x)→c'.may x.b∨c'.w.heap.size≤x.b) (cY:Ext c'.w c'.ro c'.ρ w ro (jG m ad ρ)):
  Good c' ad w ro (jG m ad ρ):=by
 obtain⟨f1,f2⟩:=hm.fwd g
 have zh:=fun(j:Nat) x=>Ae (m:=m) (ad:=ad) (ρ:=ρ) (j:=j) (x:=x)
 refine⟨KE,acu,iO,acv,hold,g.iN,aaV,by simp[jG,hm.len],fun j x hj=>?_,fun j j' x y hj oB hb=>?_,fun j r' jU=>?_,cY⟩
 ·obtain⟨i,h1,h2⟩:=zh j x hj
  exact⟨age j x hj,(g.cK i x h2).2⟩
 ·obtain⟨i,h1,h2⟩:=zh j x hj
  obtain⟨i',iQ,eX⟩:=zh j' y oB
  have:=g.inj i i' x y h2 eX hb
  subst this
  obtain⟨_,l1⟩:=B5 hj
  obtain⟨_,l2⟩:=B5 oB
  exact hm.inj j j' i h1 iQ l1 l2
 ·have aO:j<m.length:=by rw[←hm.len];exact(apN.1 jU).1
  obtain⟨q,hq⟩:=aC aO
  cases q with
  |none=>
   have:=hm.new j r' hq jU
   subst this
   exact .inr ⟨rfl,f2 j hq⟩
  |some i=>
   obtain⟨r,hr,px⟩:=hm.eW j i r' hq jU
   have wU:(jG m ad ρ)[j]?=some (match(some r':Option Row)with|some (.live _)=>(ρ[i]?).getD .dead|_=>.dead):=by rw[pE,hq,jU];rfl
   cases r' with
   |bu=>exact px.elim
   |dead=>exact wU
   |live iy=>
    cases r with
    |bu=>exact px.elim
    |dead=>exact px.elim
    |live cs=>
     simp only at wU
     rcases g.row i _ hr with⟨x,hx,C,e,fr,p1,p2,p3,p4,p5⟩|⟨hc,hv⟩
     ·rw[hx,arj]at wU
      obtain⟨q1,q2⟩:=dI.get px
      refine .inl ⟨x,wU,C,e,fr,p1,p2,p3,by omega,fun k v hv=>?_⟩
      obtain⟨v0,BF⟩:=aC (l:=cs) (i:=k) (by rw[←q1];exact(apN.1 hv).1)
      obtain⟨u,hu,hru⟩:=p5 k v0 BF
      exact⟨u,hu,Rd.F7 (q2 k v v0 hv BF) f1 f2 hru⟩
     ·subst hc
      have:iy=[]:=by
       obtain⟨q1,-⟩:=dI.get px
       exact apW (by simpa using q1)
      subst this
      rw[hv]at wU
      exact .inr ⟨rfl,wU⟩
end
def behind(m:List Nat)(n k:Nat):List (Option Nat):=m.map some++(List.range (k-m.length)).map fun t=>some (n+t)
structure Ra (m : List Nat) (rows fk ad : List Row) : Prop where
 le:m.length≤fk.length
 len:ad.length=rows.length+(fk.length-m.length)
 dM: ∀(j i:Nat) r1,(behind m rows.length fk.length)[j]?=some (some i)→fk[j]?=some r1→ ∃r,ad[i]?=some r∧nd true (behind m rows.length fk.length) r1 r
 fg: ∀(i:Nat),i<rows.length→i∉m→ad[i]?=rows[i]?
def Jz(P:Program)(f:FuncId)(args:List V)(rows:List Row)(k:KV):Prop:=
 ∃(m:List Nat) (gY:List V) (fk:List Row) (R:V→List Row→Prop),m.Nodup∧jl (m.map some) fk rows∧dI false (m.map some) gY args∧cO P f gY fk R∧
  ∀r1 eU,R r1 eU→ ∃r ad,Ra m rows eU ad∧Ren true (behind m rows.length eU.length) r1 r∧k r ad
theorem oS{m:List Nat}{n k j:Nat}:(behind m n k)[j]?=if j<m.length then(m[j]?).map some else if j<k then some (some (n+(j-m.length)))else none:=by
 unfold behind
 rw[aqq]
 split
 ·rename_i h
  rw[if_pos (by simpa using h)]
  simp
 ·rename_i h
  simp at h
  rw[if_neg (by omega),apZ,aqz]
  split
  ·rw[aqK (by omega)];simp
  ·rw[aql (by simp;omega)];simp
open Classical in
noncomputable def wS(M:List (Option Nat))(n:Nat)(ρ ρ1:bP):bP:=
 (List.range n).map fun i=>if h: ∃j:Nat,M[j]?=some (some i)then(ρ1[Classical.choose h]?).getD .dead else(ρ[i]?).getD .dead
theorem KU{P:Program}{c:Ctx}{rows:List Row}{w:World}{ro:Nat→Prop}{ρ:bP}{k:KV}{f:FuncId}{args:List V}{vs:Array Value}(go:iL P c)(g:Good c rows w ro ρ)(ha:bh w ro ρ vs.toList args)
  (h:Jz P f args rows k):Enters P f∧Calls P f vs w fun e w'=> ∃v,e=.returned v∧lU c k w ro ρ v w':=by
 obtain⟨m,gY,fk,R,j4,px,hra,⟨p6,dC⟩,hk⟩:=h
 refine⟨p6,?_⟩
 obtain⟨f1,f2⟩:=px.fwd g
 generalize PC:jG (m.map some) fk ρ=ρ1 at f1 f2
 have zh: ∀(j:Nat) x,ρ1[j]?=some (.on x)→ ∃i,m[j]?=some i∧ρ[i]?=some (.on x):=by
  intro j x hj
  rw[←PC]at hj
  obtain⟨i,h1,h2⟩:=Ae hj
  exact⟨i,by simpa using h1,h2⟩
 have g1:Good ⟨w,ro,ρ1⟩ fk w ro ρ1:=by
  have:=g.F7 px (c':=⟨w,ro,ρ1⟩) rfl rfl rfl (aqf _) (fun _ _ _=>rfl) (fun b hb=>.inl hb) (fun j x hj=>.inl ⟨j,x,by rw[PC]at hj;exact hj,rfl⟩) (by rw[PC];exact Ext.refl _ _ _)
  rw[PC]at this
  exact this
 have UP: ∀(j i:Nat),m[j]?=some i→i<rows.length:=by
  intro j i hj
  have aO:j<fk.length:=by rw[px.len];simpa using(apN.1 hj).1
  obtain⟨r',jU⟩:=aC aO
  obtain⟨r,hr,-⟩:=px.eW j i r' (by simp[hj]) jU
  exact(apN.1 hr).1
 refine(dC w ro ρ1 vs g1 (go.at g fun b hb=>hb) (hra.pI f1 f2 ha)).mono ?_
 rintro e w' ⟨v,r1,eU,aY,ρ1',rfl,hR,g',hr⟩
 refine⟨v,rfl,?_⟩
 obtain⟨r,ad,qV,mS,qI⟩:=hk r1 eU hR
 generalize hM:behind m rows.length eU.length=M at qV mS
 have Bh: ∀j:Nat,M[j]?=if j<m.length then(m[j]?).map some else if j<eU.length then some (some (rows.length+(j-m.length)))else none:=fun j=>by rw[←hM];exact oS
 have acw: ∀(j j' i:Nat),M[j]?=some (some i)→M[j']?=some (some i)→j=j':=by
  intro j j' i h h'
  rw[Bh]at h h'
  split at h<;>split at h'
  ·rename_i q q'
   cases hj:m[j]? with
   |none=>simp[hj]at h
   |some a=>
    cases oB:m[j']? with
    |none=>simp[oB]at h'
    |some b=>
     simp[hj]at h;simp[oB]at h'
     subst h;subst h'
     exact(List.getElem?_inj q j4).1 (by rw[hj,oB])
  ·rename_i q q'
   cases hj:m[j]? with
   |none=>simp[hj]at h
   |some a=>
    simp[hj]at h
    subst h
    have:=UP j a hj
    split at h'
    ·simp at h';omega
    ·simp at h'
  ·rename_i q q'
   cases oB:m[j']? with
   |none=>simp[oB]at h'
   |some a=>
    simp[oB]at h'
    subst h'
    have:=UP j' a oB
    split at h
    ·simp at h;omega
    ·simp at h
  ·split at h<;>split at h'
   ·simp at h h';omega
   ·simp at h'
   ·simp at h
   ·simp at h
 have agf: ∀(j i:Nat),M[j]?=some (some i)→i<ad.length:=by
  intro j i h
  rw[Bh]at h
  rw[qV.len]
  split at h
  ·cases hj:m[j]? with
   |none=>simp[hj]at h
   |some a=>simp[hj]at h;subst h;have:=UP j a hj;omega
  ·split at h
   ·simp at h;omega
   ·simp at h
 have hMm: ∀(j i:Nat),m[j]?=some i→M[j]?=some (some i):=by
  intro j i h
  rw[Bh,if_pos (apN.1 h).1,h];rfl
 have ajy:M.length=eU.length:=by
  rw[←hM];unfold behind;simp;have:=qV.le;omega
 generalize PD:wS M ad.length ρ ρ1'=ρ'
 have u4: ∀(j i:Nat) y,M[j]?=some (some i)→ρ1'[j]?=some y→ρ'[i]?=some y:=by
  intro j i y hj hy
  rw[←PD,wS,apZ,aqK (agf j i hj)]
  have hex: ∃j:Nat,M[j]?=some (some i):=⟨j,hj⟩
  simp only[aqU]
  rw[dif_pos hex]
  have:Classical.choose hex=j:=acw _ _ i (Classical.choose_spec hex) hj
  rw[this,hy];rfl
 have Bi: ∀(i:Nat),i<rows.length→i∉m→ρ'[i]?=ρ[i]?:=by
  intro i hi hni
  have aO:i<ad.length:=by rw[qV.len];omega
  rw[←PD,wS,apZ,aqK aO]
  have agh: ¬ ∃j:Nat,M[j]?=some (some i):=by
   rintro⟨j,hj⟩
   rw[Bh]at hj
   split at hj
   ·cases MH:m[j]? with
    |none=>simp[MH]at hj
    |some a=>simp[MH]at hj;subst hj;exact hni (aqg MH)
   ·split at hj
    ·simp at hj;omega
    ·simp at hj
  simp only[aqU]
  rw[dif_neg agh]
  obtain⟨y,hy⟩:=aC (l:=ρ) (i:=i) (by rw[g.len];exact hi)
  rw[hy];rfl
 have Ew: ∀(i:Nat) x,ρ'[i]?=some (.on x)→(∃j:Nat,M[j]?=some (some i)∧ρ1'[j]?=some (Pl.on x))∨(i<rows.length∧i∉m∧ρ[i]?=some (Pl.on x)):=by
  intro i x hi
  have aO:i<ad.length:=by
   have:=(apN.1 hi).1
   rw[←PD]at this
   simpa[wS]using this
  by_cases jX:i∈m
  ·obtain⟨j,hj,rfl⟩:=arF.1 jX
   have Af:=hMm j m[j] (by simp[hj])
   obtain⟨y,hy⟩:=aC (l:=ρ1') (i:=j) (by rw[g'.len];have:=qV.le;omega)
   have:=u4 j _ y Af hy
   rw[this]at hi
   simp at hi
   subst hi
   exact .inl ⟨j,Af,hy⟩
  ·by_cases ur:i<rows.length
   ·rw[Bi i ur jX]at hi
    exact .inr ⟨ur,jX,hi⟩
   ·have Af:M[i-rows.length+m.length]?=some (some i):=by
     rw[Bh,if_neg (by omega),if_pos (by rw[qV.len]at aO;have:=qV.le;omega)]
     congr 2;omega
    obtain⟨y,hy⟩:=aC (l:=ρ1') (i:=i-rows.length+m.length) (by rw[g'.len];rw[qV.len]at aO;have:=qV.le;omega)
    have:=u4 _ _ y Af hy
    rw[this]at hi
    simp at hi
    subst hi
    exact .inl ⟨_,Af,hy⟩
 have pf: ∀b,Ctx.may ⟨w,ro,ρ1⟩ b→ ∃(j i:Nat) (x:tO),m[j]?=some i∧ρ[i]?=some (.on x)∧x.b=b:=by
  rintro b ⟨j,x,hj,hb⟩
  obtain⟨i,h1,h2⟩:=zh j x hj
  exact⟨j,i,x,h1,h2,hb⟩
 have cY:Ext w ro ρ w' aY ρ':=by
  refine⟨g'.ext.fg,g'.ext.heap,fun i y hy hn=>?_⟩
  have ur:i<rows.length:=by rw[←g.len];exact(apN.1 hy).1
  by_cases jX:i∈m
  ·obtain⟨j,hj,rfl⟩:=arF.1 jX
   have MH:m[j]?=some m[j]:=by simp[hj]
   obtain⟨y1,qB,bD⟩:=f1 j m[j] y (by simp[hj]) hy hn
   have IE:y1≠.bu:=by rcases bD with rfl|rfl<;>first|exact hn|exact(fun h=>by cases h)
   obtain⟨y2,BB,bC⟩:=g'.ext.own j y1 qB IE
   refine⟨y2,u4 j _ y2 (hMm j _ MH) BB,?_⟩
   rcases bC with rfl|rfl
   ·exact .inl rfl
   ·exact bD
  ·exact⟨y,by rw[Bi i ur jX];exact hy,.inr rfl⟩
 have VW: ∀(j i:Nat) r1,M[j]?=some (some i)→eU[j]?=some r1→ ∀r,ad[i]?=some r→nd true M r1 r→cX w' aY ρ' i r:=by
  intro j i r1 hj lD r hr px
  have:=g'.row j r1 lD
  cases r1 with
  |bu=>exact px.elim
  |dead=>
   obtain rfl:=px.2 rfl
   exact u4 j i _ hj this
  |live cs1=>
   cases r with
   |bu=>exact px.elim
   |dead=>exact px.elim
   |live cs=>
    obtain⟨q1,q2⟩:=dI.get px
    rcases this with⟨x,hx,C,e,fr,p1,p2,p3,p4,p5⟩|⟨hc,hv⟩
    ·refine .inl ⟨x,u4 j i _ hj hx,C,e,fr,p1,p2,p3,by omega,fun t v hv=>?_⟩
     obtain⟨v1,hv1⟩:=aC (l:=cs1) (i:=t) (by rw[q1];exact(apN.1 hv).1)
     obtain⟨u,hu,hru⟩:=p5 t v1 hv1
     exact⟨u,hu,Rd.VV (q2 t v1 v hv1 hv) u4 hru⟩
    ·subst hc
     have:cs=[]:=apW (by simpa using q1.symm)
     subst this
     exact .inr ⟨rfl,u4 j i _ hj hv⟩
 have gg:Good c ad w' aY ρ':=by
  refine⟨g'.os.trans g.os,g'.tape.trans g.tape,g'.output.trans g.output,aqD g.size g'.size,fun b hb hm=>?_,g'.iN,fun b hb=>?_,by rw[←PD];simp[wS],fun i x hi=>?_,fun i i' x y hi BN hb=>?_,fun i r hr=>?_,g.ext.trans cY⟩
  ·rw[g'.eW b (aqJ hb g.size) (fun h=>by
    obtain⟨j,i,x,h1,h2,rfl⟩:=pf b h
    rcases(g.cK i x h2).1 with h|h
    ·exact hm h
    ·omega)]
   exact g.eW b hb hm
  ·rcases g'.gW b hb with h|h|h
   ·exact g.gW b h
   ·obtain⟨j,i,x,h1,h2,rfl⟩:=pf b h
    exact .inr (g.cK i x h2).1
   ·exact .inr (.inr (aqD g.size h))
  ·rcases Ew i x hi with⟨j,hj,hx⟩|⟨ur,jX,hx⟩
   ·refine⟨?_,(g'.cK j x hx).2⟩
    rcases(g'.cK j x hx).1 with h|h
    ·obtain⟨j',i',x',h1,h2,hb⟩:=pf _ h
     rw[←hb]
     exact(g.cK i' x' h2).1
    ·exact .inr (aqD g.size h)
   ·refine⟨(g.cK i x hx).1,fun h=>?_⟩
    rcases g'.gW _ h with h|h|h
    ·exact(g.cK i x hx).2 h
    ·obtain⟨j',i',x',h1,h2,hb⟩:=pf _ h
     have:=g.inj i' i x' x h2 hx hb
     subst this
     exact jX (aqg h1)
    ·have:=g.oP hx;simp at h;omega
  ·have VX: ∀(i i':Nat) x y,(∃j:Nat,M[j]?=some (some i)∧ρ1'[j]?=some (.on x))→(i'<rows.length∧i'∉m∧ρ[i']?=some (.on y))→x.b≠y.b:=by
    rintro i i' x y ⟨j,hj,hx⟩ ⟨ur,jX,hy⟩ hb
    rcases(g'.cK j x hx).1 with h|h
    ·obtain⟨j',i'',x',h1,h2,gF⟩:=pf _ h
     have:=g.inj i'' i' x' y h2 hy (gF.trans hb)
     subst this
     exact jX (aqg h1)
    ·have:=g.oP hy;simp at h;omega
   rcases Ew i x hi with h|h<;>rcases Ew i' y BN with h'|h'
   ·obtain⟨j,hj,hx⟩:=h
    obtain⟨j',oB,fp⟩:=h'
    have:=g'.inj j j' x y hx fp hb
    subst this
    rw[hj]at oB
    simp at oB
    exact oB
   ·exact absurd hb (VX i i' x y h h')
   ·exact absurd hb.symm (VX i' i y x h' h)
   ·exact g.inj i i' x y h.2.2 h'.2.2 hb
  ·have aO:i<ad.length:=(apN.1 hr).1
   by_cases jX:i∈m
   ·obtain⟨j,hj,rfl⟩:=arF.1 jX
    have Af:=hMm j m[j] (by simp[hj])
    obtain⟨r1,lD⟩:=aC (l:=eU) (i:=j) (by have:=qV.le;omega)
    obtain⟨r2,j2,KW⟩:=qV.dM j m[j] r1 (by rw[hM];exact Af) lD
    rw[hr]at j2
    simp at j2
    subst j2
    exact VW j m[j] r1 Af lD r hr (by rw[hM]at KW;exact KW)
   ·by_cases ur:i<rows.length
    ·have vR:rows[i]?=some r:=by rw[←qV.fg i ur jX];exact hr
     have:=g.row i r vR
     cases r with
     |bu=>show ρ'[i]?=_;rw[Bi i ur jX];exact this
     |dead=>show ρ'[i]?=_;rw[Bi i ur jX];exact this
     |live cs=>
      rcases this with⟨x,hx,bA⟩|⟨hc,hv⟩
      ·refine .inl ⟨x,by rw[Bi i ur jX];exact hx,bA.ext cY (g'.eW x.b (g.oP hx) fun h=>?_)⟩
       obtain⟨j',i',x',h1,h2,hb⟩:=pf _ h
       have:=g.inj i' i x' x h2 hx hb
       subst this
       exact jX (aqg h1)
      ·exact .inr ⟨hc,by rw[Bi i ur jX];exact hv⟩
    ·have Af:M[i-rows.length+m.length]?=some (some i):=by
      rw[Bh,if_neg (by omega),if_pos (by rw[qV.len]at aO;have:=qV.le;omega)]
      congr 2;omega
     obtain⟨r1,lD⟩:=aC (l:=eU) (i:=i-rows.length+m.length) (by rw[qV.len]at aO;have:=qV.le;omega)
     obtain⟨r2,j2,KW⟩:=qV.dM _ i r1 (by rw[hM];exact Af) lD
     rw[hr]at j2
     simp at j2
     subst j2
     exact VW _ i r1 Af lD r hr (by rw[hM]at KW;exact KW)
 exact⟨r,ad,aY,ρ',qI,gg,Rd.VV mS u4 hr,cY⟩
end Go.VS
set_option linter.all false
namespace Go.VS
def Xm(P:Program)(ps:Array Tmp)(assign body:Code)(cap args:List V)(rows:List Row)(k:KV):Prop:=
 args.length=ps.size∧ ∀(c:Ctx) (w:World) (ro:Nat→Prop) (ρ:bP) (l:Nat) (r:Loop) (vs:Array Value),iL P c→Good c rows w ro ρ→ro l→w.heap[l]?=some (.loop r)→r.state=.ready→r.pending=none→
  r.params=ps→r.assign=assign→r.body=body→bh w ro ρ r.tmps.toList cap→bh w ro ρ vs.toList args→
  RoundIn Fence.wide 0 P l r.fn ((r.params.zip vs).foldl (fun tmps (t,a)=>tmps.setIfInBounds t a) r.tmps) r.assign r.body w fun e w'=> ∃v,e=.returned v∧lU c k w ro ρ v w'
def mh(P:Program)(draw:Bool)(fv:V)(args:List V)(rows:List Row)(k:KV):Prop:=
 match fv with
 |.fn (.func f) cap=>Sh P f (args++cap) rows k∨(draw=false∧Jz P f (args++cap) rows k)
 |.kt ps a b cap=>draw=false∧Xm P ps a b cap args rows k
 |_=>False
def bF(P:Program)(draw:Bool)(op:Op)(id:Nat)(s:List V)(rows:List Row)(k:KV):Prop:=
 match op with
 |.move x|.assign x=>k (ax s x) rows
 |.pick c a b=>(match ax s c with
  |.bool t=>if t=true then k (ax s a) rows else k (ax s b) rows
  |_=>False)
 |.alloc e=> ∃z,ag P e=some z∧dB rows id∧k (.ref id 0) (da rows id (.live z))
 |.box _ v=>UJ (ax s v) id rows k
 |.build t parts=>KJ P t (ax s) parts.toList fun v=>k v rows
 |.buildSlice t len parts=>vB P t len (ax s) parts.toList id rows k
 |.load t a=>xz P t (ax s a) rows k
 |.store t a v=>KI P t (ax s a) (ax s v) rows k
 |.nilCheck x=>(match ax s x with
  |.ref id off=>k (.ref id off) rows
  |.aL cs=>k (.aL cs) rows
  |.fn (.func f) cap=>k (.fn (.func f) cap) rows
  |.kt ps a b cap=>k (.kt ps a b cap) rows
  |_=>False)
 |.binOp op xt x y _=>vA P op xt (ax s x) (ax s y) fun v=>k v rows
 |.unOp op _ x=>KH op (ax s x) fun v=>k v rows
 |.convert sr d x=>uZ P sr d (ax s x) id rows k
 |.makeFunc fn first cap=>first=#[]∧k (.fn fn (cap.toList.map (ax s))) rows
 |.makeInterface t x=>KG P t=some false∧k (.iface t (ax s x)) rows
 |.makeSlice t l c=>x9 P t (ax s l) (ax s c) id rows k
 |.slice t x lo hi mx=>DV P t (ax s x) (lo.map (ax s)) (hi.map (ax s)) (mx.map (ax s)) rows k
 |.fieldAddr t x f=>x8 P t (ax s x) f rows k
 |.field t x f=>tP P t (ax s x) f fun v=>k v rows
 |.indexAddr t x i=>x7 P t (ax s x) (ax s i) rows k
 |.index t x i=>wO P t (ax s x) (ax s i) fun v=>k v rows
 |.extract t i=>(match ax s t with
  |.aB vs=> ∃v,vs[i]?=some v∧k v rows
  |_=>False)
 |.call c=>(match c.callee with
  |.builtin b=>ic P b c.argTypes (c.args.toList.map (ax s)) id rows k
  |.value f=>mh P draw (ax s f) (c.args.toList.map (ax s)) rows k
  |_=>False)
 |_=>False
def mT(P:Program)(c:Ctx)(k:KV)(w:World)(ro:Nat→Prop)(ρ:bP):Result Next→Prop
 |.ok (.value v) w'=>lU c k w ro ρ v w'
 |.ok .skip w'=>lU c k w ro ρ undef w'
 |.ok (.enter f args) w'=>Calls P f args w' fun e lV=> ∃v,e=.returned v∧lU c k w ro ρ v lV
 |.ok (.round l f tmps assign body) w'=>RoundIn Fence.wide 0 P l f tmps assign body w' fun e lV=> ∃v,e=.returned v∧lU c k w ro ρ v lV
 |_=>False
section
variable {P : Program} {c : Ctx} {rows : List Row} {w : World} {ro : Nat → Prop} {ρ : bP} {k : KV} {b0 : Nat}
theorem ee.done{s:Sem Value}(h:ee P s c k w ro ρ):mT P c k w ro ρ ((do pure (.value (←s)):Sem Next).run P w):=by
 obtain⟨v,w',hr,dN⟩:=h
 simp[hr,mT,dN]
theorem Pu.done{s:Sem Unit}(h:Pu P s c k w ro ρ):mT P c k w ro ρ ((do s;pure .skip:Sem Next).run P w):=by
 obtain⟨w',hr,dN⟩:=h
 simp[hr,mT,dN]
theorem gb: ∀(s:List V) (i:Nat),bL s i=(s[i]?).getD .aa
 |[],i=>by simp[bL]
 |a::s,0=>by simp[bL]
 |a::s,i+1=>by simp[bL,gb s i]
theorem lf: ∀(s:List V) (i:Nat) (v:V),sset s i v=s.set i v
 |[],i,v=>by simp[sset]
 |a::s,0,v=>by simp[sset]
 |a::s,i+1,v=>by simp[sset,lf s i]
def Marks(b0:Nat)(w:World)(ro:Nat→Prop)(a:Act):Prop:= ∃Ds:List Nat,a.defers=Ds.map (fun D=>{target:=.collected D,args:=#[]})∧Ds.Nodup∧ ∀D∈Ds,b0≤D∧ro D∧w.heap[D]?=some (.deferred (some []))
theorem Marks.fg{b0:Nat}{w:World}{ro aY:Nat→Prop}{a:Act}(h:Marks b0 w ro a)(hk: ∀b,ro b→aY b):Marks b0 w aY a:=by
 obtain⟨Ds,h1,h2,h3⟩:=h
 exact⟨Ds,h1,h2,fun D hD=>⟨(h3 D hD).1,hk _ (h3 D hD).2.1,(h3 D hD).2.2⟩⟩
theorem Marks.ext{b0:Nat}{w w':World}{ro aY:Nat→Prop}{ρ ρ':bP}{a:Act}(h:Marks b0 w ro a)(e:Ext w ro ρ w' aY ρ'):Marks b0 w' aY a:=by
 obtain⟨Ds,h1,h2,h3⟩:=h
 exact⟨Ds,h1,h2,fun D hD=>⟨(h3 D hD).1,e.fg D (h3 D hD).2.1,(e.heap D (h3 D hD).2.1).trans (h3 D hD).2.2⟩⟩
structure eV (b0 : Nat) (w : World) (ro : Nat → Prop) (ρ : bP) (a : Act) (s : List V) : Prop where
 pI:bh w ro ρ a.tmps.toList s
 marks:Marks b0 w ro a
theorem eV.eval{a:Act}{s:List V}(h:eV b0 w ro ρ a s)(x:Operand):Rd w ro ρ (a.eval x) (ax s x):=by
 cases x with
 |tmp t=>
  simp only[Act.eval,ax,gb]
  cases hs:s[t]? with
  |none=>exact .aa
  |some x=>
   obtain⟨u,hu,hr⟩:=h.pI.get hs
   simp at hu
   rw[aqu,hu]
   exact hr
 |const v=>exact Pv v
 |global g=>exact .val
 |func f=>exact .fn rfl rfl fun i u x hu=>by simp at hu
theorem eV.put{a:Act}{s:List V}(h:eV b0 w ro ρ a s){v:Value}{x:V}(hv:Rd w ro ρ v x)(dst:Option Tmp):eV b0 w ro ρ (a.put dst v) (aD s dst x):=by
 cases dst with
 |none=>exact h
 |some d=>
  refine⟨⟨by simp[Act.put,aD,lf,h.pI.1],fun i u y hu hy=>?_⟩,h.marks⟩
  simp only[aD,lf]at hy
  simp only[Act.put,Array.toList_setIfInBounds]at hu
  rw[aqB]at hu hy
  by_cases hd:d=i
  ·subst hd
   simp at hu hy
   obtain⟨_,rfl⟩:=hu
   obtain⟨_,rfl⟩:=hy
   exact hv
  ·rw[if_neg hd]at hu hy
   exact h.pI.2 i u y hu hy
theorem eV.ext{a:Act}{s:List V}(h:eV b0 w ro ρ a s){w':World}{aY:Nat→Prop}{ρ':bP}(e:Ext w ro ρ w' aY ρ'):eV b0 w' aY ρ' a s:=⟨h.pI.ext e,h.marks.ext e⟩
theorem sx{a:Act}{s:List V}(h:eV b0 w ro ρ a s)(xs:List Operand):bh w ro ρ (xs.map a.eval) (xs.map (ax s)):=
 ⟨by simp,fun i u x hu hx=>by
  simp at hu hx
  obtain⟨o,ho,rfl⟩:=hu
  obtain⟨o',jW,rfl⟩:=hx
  rw[ho]at jW
  simp at jW
  subst jW
  exact h.eval o⟩
theorem FP{a:Act}{s:List V}(h:eV b0 w ro ρ a s)(x:Option Operand):NA w ro ρ (x.map a.eval) (x.map (ax s)):=by
 cases x with
 |none=>trivial
 |some x=>exact h.eval x
theorem Si{draw:Bool}{a:Act}{s:List V}{f:Operand}{args:Array Operand}{ts:Array TypeId}{ty:TypeId}(go:iL P c)(hs:eV b0 w ro ρ a s)(g:Good c rows w ro ρ)
  (h:mh P draw (ax s f) (args.toList.map (ax s)) rows k):mT P c k w ro ρ ((do let d←resolve a.eval ⟨.value f,args,ts⟩ ty;invoke d.target d.args:Sem Next).run P w):=by
 have hf:=hs.eval f
 generalize ax s f=fv at h hf
 unfold mh at h
 split at h
 ·rename_i f' cap
  cases wH:a.eval f with
  |func fn fs us=>
   rw[wH]at hf
   cases hf with
   |fn h0 h1 h2=>
    subst h0
    have uQ:bh w ro ρ ((args.map a.eval++us).toList) (args.toList.map (ax s)++cap):=by
     rw[Array.toList_append,ar2]
     exact(sx hs args.toList).append ⟨by simpa using h1,fun i u x hu hx=>h2 i u x (by simpa using hu) hx⟩
    have bX:Enters P f'∧Calls P f' (args.map a.eval++us) w fun e w'=> ∃v,e=.returned v∧lU c k w ro ρ v w':=by
     rcases h with h|⟨-,h⟩
     ·exact KT go g uQ h
     ·exact KU go g uQ h
    simp[resolve,wH,Deferred.ofValue,invoke,bX.1 _ _,mT,bX.2]
  |_=>rw[wH]at hf;cases hf
 ·obtain⟨-,hlen,h⟩:=h
  generalize wH:a.eval f=u at hf
  cases hf with
  |@kt _ l r _ k0 fi anJ h1 h2 h3 h4 h5 h6 h7=>
   have uQ:bh w ro ρ ((args.map a.eval).toList) (args.toList.map (ax s)):=by
    rw[ar2]
    exact sx hs args.toList
   have cm:(args.map a.eval).size=r.params.size:=by simpa using hlen
   have:=h c w ro ρ _ _ _ go g h1 h2 h3 h4 rfl rfl rfl ⟨by simpa using h6,fun i u x hu hx=>h7 i u x (by simpa using hu) hx⟩ uQ
   simpa[resolve,wH,Deferred.ofValue,invoke,callFunc,run_yield h2 cm,mT]using this
 ·exact h.elim
theorem KX{b:Builtin}{a:Act}{s:List V}{id:Nat}{args:Array Operand}{ts:Array TypeId}{ty:TypeId}(hs:eV b0 w ro ρ a s)(g:Good c rows w ro ρ)
  (h:ic P b ts (args.toList.map (ax s)) id rows k):mT P c k w ro ρ ((do let d←resolve a.eval ⟨.builtin b,args,ts⟩ ty;invoke d.target d.args:Sem Next).run P w):=by
 have ha:=sx hs args.toList
 have vD:args.map a.eval=(args.toList.map a.eval).toArray:=by apply ary;simp
 generalize args.toList.map (ax s)=xs at h ha
 generalize args.toList.map a.eval=us at ha vD
 have two: ∀{x y:V},bh w ro ρ us [x,y]→ ∃u v,us=[u,v]∧Rd w ro ρ u x∧Rd w ro ρ v y:=by
  intro x y hr
  match us,hr with
  |[u,v],hr=>exact⟨u,v,rfl,hr.2 0 u x rfl rfl,hr.2 1 v y rfl rfl⟩
  |[],hr=>simp[bh]at hr
  |[_],hr=>simp[bh]at hr
  |_::_::_::_,hr=>simp[bh]at hr
 unfold ic at h
 split at h
 ·rename_i x
  obtain⟨t,ht,h⟩:=h
  match us,ha with
  |[u],ha=>
   have:=(Sd (P:=P) (ty:=ty) g (ha.2 0 u x rfl rfl) h).done
   have e:Builtin.len_ ts ty #[u]=Builtin.len_ #[t] ty #[u]:=by simp[Builtin.len_,ht]
   simpa[resolve,vD,invoke,builtin,e]using this
  |[],ha=>simp[bh]at ha
  |_::_::_,ha=>simp[bh]at ha
 ·rename_i x y
  obtain⟨t,t',ht,Et,hor,h⟩:=h
  obtain⟨u,v,rfl,hu,hv⟩:=two ha
  have:=(KQ (P:=P) (ty:=ty) g hu hv hor h).done
  have e:Builtin.append_ ts ty #[u,v]=Builtin.append_ #[t,t'] ty #[u,v]:=by simp[Builtin.append_,ht,Et]
  simpa[resolve,vD,invoke,builtin,e]using this
 ·rename_i x y
  obtain⟨t,ht,h⟩:=h
  obtain⟨u,v,rfl,hu,hv⟩:=two ha
  have:=(PA (P:=P) (ty:=ty) (t':=t) g hu hv h).done
  have e:Builtin.copy_ ts ty #[u,v]=Builtin.copy_ #[t,t] ty #[u,v]:=by simp[Builtin.copy_,ht]
  simpa[resolve,vD,invoke,builtin,e]using this
 ·have:=(Ad (P:=P) (ts:=ts) (ty:=ty) (mx:=false) g ha h).done
  simpa[resolve,vD,invoke,builtin]using this
 ·have:=(Ad (P:=P) (ts:=ts) (ty:=ty) (mx:=true) g ha h).done
  simpa[resolve,vD,invoke,builtin]using this
 ·exact h.elim
theorem parts_eq{a:Act}(parts:Array (Nat×Operand)):(parts.map fun(i,x)=>(i,a.eval x))=(parts.toList.map fun p=>(p.1,a.eval p.2)).toArray:=by
 apply ary
 simp
set_option maxHeartbeats 1000000 in
theorem rT{draw:Bool}{o:Oper}{a:Act}{s:List V}{id:Nat}(go:iL P c)(hs:eV b0 w ro ρ a s)(g:Good c rows w ro ρ)(h:bF P draw o.op id s rows k):mT P c k w ro ρ ((execOp a.eval o).run P w):=by
 obtain⟨dst,op,type,pos,after,guard⟩:=o
 simp only at h
 cases op<;>simp only[bF]at h<;>simp only[execOp]
 case move x=>exact⟨_,rows,ro,ρ,h,g,hs.eval x,Ext.refl _ _ _⟩
 case assign x=>exact⟨_,rows,ro,ρ,h,g,hs.eval x,Ext.refl _ _ _⟩
 case pick q x y=>
  have hq:=hs.eval q
  cases hqv:ax s q with
  |bool t=>
   rw[hqv]at hq h
   have hqe:=oa hq
   cases t with
   |true=>
    simp at h
    have:(do pure (.value (if←asBool (a.eval q)then a.eval x else a.eval y)):Sem Next).run P w=.ok (.value (a.eval x)) w:=by simp[hqe,asBool]
    rw[this]
    exact⟨_,rows,ro,ρ,h,g,hs.eval x,Ext.refl _ _ _⟩
   |false=>
    simp at h
    have:(do pure (.value (if←asBool (a.eval q)then a.eval x else a.eval y)):Sem Next).run P w=.ok (.value (a.eval y)) w:=by simp[hqe,asBool]
    rw[this]
    exact⟨_,rows,ro,ρ,h,g,hs.eval y,Ext.refl _ _ _⟩
  |_=>rw[hqv]at h;exact h.elim
 case alloc e=>obtain⟨z,hz,hf,hk⟩:=h;exact(Mi g hz hf hk).done
 case box e v=>exact(Se g (hs.eval v) h).done
 case build t parts=>
  rw[parts_eq]
  exact(Mj g (fun p _=>hs.eval p.2) h).done
 case buildSlice t n parts=>
  rw[parts_eq]
  exact(CV g (fun p _=>hs.eval p.2) h).done
 case load t x=>exact(Ps g (hs.eval x) h).done
 case store t x v=>exact(Mh g (hs.eval x) (hs.eval v) h).done
 case nilCheck x=>
  have hx:=hs.eval x
  generalize a.eval x=u at hx⊢
  cases Sj:ax s x with
  |ref id off=>
   rw[Sj]at hx h
   have fp:=hx
   cases hx with
   |ref=>simp only[Sem.run_pure,mT];exact⟨_,rows,ro,ρ,h,g,fp,Ext.refl _ _ _⟩
  |aL cs=>
   rw[Sj]at hx h
   have fp:=hx
   obtain⟨b,o,e,-,-⟩:=wP hx
   rw[e]at fp⊢
   simp only[Sem.run_pure,mT]
   exact⟨_,rows,ro,ρ,h,g,fp,Ext.refl _ _ _⟩
  |fn f cap=>
   rw[Sj]at hx h
   cases f with
   |func f=>
    have fp:=hx
    cases hx with
    |fn=>simp only[Sem.run_pure,mT];exact⟨_,rows,ro,ρ,h,g,fp,Ext.refl _ _ _⟩
   |_=>exact h.elim
  |kt ps as bo cap=>
   rw[Sj]at hx h
   have fp:=hx
   cases hx with
   |kt=>simp only[Sem.run_pure,mT];exact⟨_,rows,ro,ρ,h,g,fp,Ext.refl _ _ _⟩
  |_=>rw[Sj]at h;exact h.elim
 case binOp op xt x y yt=>exact(Sa g (hs.eval x) (hs.eval y) h).done
 case unOp op t x=>exact(UK g (hs.eval x) h).done
 case convert sr d x=>exact(Px g (hs.eval x) h).done
 case makeFunc fn first cap=>
  obtain⟨rfl,h⟩:=h
  refine⟨_,rows,ro,ρ,h,g,.fn (by simp) (by simp) fun i u x hu hx=>?_,Ext.refl _ _ _⟩
  have:=sx hs cap.toList
  exact this.2 i u x (by simpa using hu) hx
 case makeInterface t x=>
  obtain⟨hi,h⟩:=h
  refine ee.done (ee.same g ?_ (.iface (hs.eval x)) h)
  unfold KG at hi
  split at hi
  ·simp at hi
  ·rename_i d hd hu
   simp only[Instr.makeInterface,Sem.run_bind,run_underlying hu,Result.andThen_ok]
   rfl
  ·simp at hi
 case makeSlice t l q=>exact(EF g (hs.eval l) (hs.eval q) h).done
 case slice t x lo hi mx=>exact(Mk g (hs.eval x) (FP hs lo) (FP hs hi) (FP hs mx) h).done
 case fieldAddr t x f=>exact(EB g (hs.eval x) h).done
 case field t x f=>exact(Mf g (hs.eval x) h).done
 case indexAddr t x i=>exact(ED g (hs.eval x) (hs.eval i) h).done
 case index t x i=>exact(Mg g (hs.eval x) (hs.eval i) h).done
 case extract t i=>
  have ht:=hs.eval t
  cases htv:ax s t with
  |aB vs=>
   rw[htv]at ht h
   obtain⟨v,hv,hk⟩:=h
   obtain⟨us,e,fQ⟩:=R7 ht
   obtain⟨u,hu,hr⟩:=fQ.get hv
   have KK:us[i]?=some u:=by simpa using hu
   exact ee.done (ee.same g (by simp[e,Instr.extract,KK]) hr hk)
  |_=>rw[htv]at h;exact h.elim
 case call q=>
  obtain⟨callee,args,ts⟩:=q
  cases callee with
  |builtin b=>exact KX hs g h
  |value f=>exact Si go hs g h
  |invoke r m=>exact h.elim
end
end Go.VS
set_option linter.all false
namespace Go.VS
abbrev KS:=List V→List Row→Prop
def gj(c:Ctx)(s:List V)(rows:List Row)(a:Act)(w:World):Prop:= ∃ro ρ,Good c rows w ro ρ∧eV c.w.heap.size w ro ρ a s
def lift(c:Ctx)(Q:Exit→KS)(e:Exit)(a:Act)(w:World):Prop:= ∃s rows,Q e s rows∧gj c s rows a w
def fw(rd:Option Nat):Fence:={Fence.wide with round:=rd}
theorem Kh{rd:Option Nat}{n:Nat}{P:Program}{f:FuncId}{args:Array Value}{w:World}{R:Ending→World→Prop}(h:Calls P f args w R):CallsIn (fw rd) n P f args w R:=
 (callsIn_wide (n:=n)).2 h
theorem Ki{rd:Option Nat}{P:Program}{l:Nat}{f:FuncId}{tmps:Array Value}{assign body:Code}{w:World}{R:Ending→World→Prop}(h:RoundIn Fence.wide 0 P l f tmps assign body w R):RoundIn (fw rd) 0 P l f tmps assign body w R:=h
theorem A7{rd:Option Nat}{n:Nat}(h:(fw rd).depth.isSome=true):1≤n:=by cases h
def OX(c:Ctx)(rd:Option Nat):Prop:= ∀l,rd=some l→c.ro l∧ ∃r,c.w.heap[l]?=some (.loop r)
theorem OX.none{c:Ctx}:OX c none:=fun l h=>by cases h
def aS(P:Program)(n0:Nat)(code:Code)(Q:Exit→KS)(s:List V)(rows:List Row):Prop:=
 ∀c a w,(c.ρ.length=n0∧iL P c)→gj c s rows a w→ ∀rd,OX c rd→code.wpIn (fw rd) 0 P (lift c Q) a w
def cZ(K:KS)(Q:Exit→KS):Exit→KS
 |.normal=>K
 |e=>Q e
def jv(id:Nat)(Q:Exit→KS):Exit→KS
 |.exit j=>if j=id then Q .normal else Q (.exit j)
 |e=>Q e
section
variable {P : Program} {n0 : Nat} {Q : Exit → KS} {s : List V} {rows : List Row} {b0 : Nat}
theorem wZ{code:Code}{Q':Exit→KS}(h:aS P n0 code Q s rows)(hq: ∀e s rows,Q e s rows→Q' e s rows):aS P n0 code Q' s rows:=
 fun c a w hn hc rd hr=>wpIn_mono (h c a w hn hc rd hr) fun e a w ⟨s,rows,hQ,hc⟩=>⟨s,rows,hq e s rows hQ,hc⟩
theorem wY(h:Q .normal s rows):aS P n0 .skip Q s rows:=fun c a w _ hc rd hr=>wpIn_skip ⟨s,rows,h,hc⟩
theorem QQ{l:Nat}(h:Q .normal s rows):aS P n0 (.label l) Q s rows:=fun c a w _ hc rd hr=>wpIn_label ⟨s,rows,h,hc⟩
theorem Cn{id:Nat}(h:Q (.exit id) s rows):aS P n0 (.exit id) Q s rows:=fun c a w _ hc rd hr=>wpIn_exit ⟨s,rows,h,hc⟩
theorem pT(h:Q .ret s rows):aS P n0 .ret Q s rows:=fun c a w _ hc rd hr=>wpIn_ret ⟨s,rows,h,hc⟩
theorem b8{x y:Code}(h: ∀K:KS,(∀s rows,aS P n0 y Q s rows→K s rows)→aS P n0 x (cZ K Q) s rows):aS P n0 (.seq x y) Q s rows:=by
 intro c a w hn hc rd hr
 refine wpIn_seq (wpIn_mono (h (aS P n0 y Q) (fun _ _ h=>h) c a w hn hc rd hr) ?_)
 rintro e a' w' ⟨s',ad,hQ,c8⟩
 cases e with
 |normal=>exact hQ c a' w' hn c8 rd hr
 |exit id=>exact⟨s',ad,hQ,c8⟩
 |goto l=>exact⟨s',ad,hQ,c8⟩
 |ret=>exact⟨s',ad,hQ,c8⟩
 |panic ch=>exact⟨s',ad,hQ,c8⟩
 |outgrown=>exact⟨s',ad,hQ,c8⟩
theorem nS{x:Operand}{y z:Code}{t:Bool}(hx:ax s x=.bool t)(ht:t=true→aS P n0 y Q s rows)(hf:t=false→aS P n0 z Q s rows):aS P n0 (.cond x y z) Q s rows:=by
 intro c a w hn hc rd hr
 obtain⟨ro,ρ,g,hs⟩:=hc
 have he:=hs.eval x
 rw[hx]at he
 exact wpIn_cond_split (oa he) (fun h=>ht h c a w hn ⟨ro,ρ,g,hs⟩ rd hr) (fun h=>hf h c a w hn ⟨ro,ρ,g,hs⟩ rd hr)
theorem ue{id:Nat}{x:Code}(h:aS P n0 x (jv id Q) s rows):aS P n0 (.block id x) Q s rows:=by
 intro c a w hn hc rd hr
 refine wpIn_block (wpIn_mono (h c a w hn hc rd hr) ?_)
 rintro e a' w' ⟨s',ad,hQ,c8⟩
 cases e with
 |exit j=>
  simp only[jv]at hQ
  simp only[Exit.inBlock]
  split
  ·rename_i h;rw[if_pos h]at hQ;exact⟨s',ad,hQ,c8⟩
  ·rename_i h;rw[if_neg h]at hQ;exact⟨s',ad,hQ,c8⟩
 |normal=>exact⟨s',ad,hQ,c8⟩
 |goto l=>exact⟨s',ad,hQ,c8⟩
 |ret=>exact⟨s',ad,hQ,c8⟩
 |panic ch=>exact⟨s',ad,hQ,c8⟩
 |outgrown=>exact⟨s',ad,hQ,c8⟩
def Le(n0:Nat)(s:List V)(rows:List Row)(s':List V)(ad:List Row):Prop:=
 ∃m:List (Option Nat),dI false m s' s∧jl m ad rows∧ ∀j,j<n0→m[j]?=some (some j)
theorem Good.le{c:Ctx}{w:World}{ro:Nat→Prop}{ρ:bP}{ad:List Row}{m:List (Option Nat)}(g:Good c rows w ro ρ)(hm:jl m ad rows)(hn: ∀j,j<c.ρ.length→m[j]?=some (some j)):
  Good c ad w ro (jG m ad ρ):=by
 obtain⟨f1,f2⟩:=hm.fwd g
 refine g.F7 hm g.os g.tape g.output g.size g.eW g.gW (fun j x hj=>?_) ⟨g.ext.fg,g.ext.heap,fun id y hy hr=>?_⟩
 ·obtain⟨i,h1,h2⟩:=Ae hj
  exact(g.cK i x h2).1
 ·obtain⟨y1,qB,bD⟩:=g.ext.own id y hy hr
  have IE:y1≠.bu:=by rcases bD with rfl|rfl<;>first|exact hr|exact(fun h=>by cases h)
  obtain⟨y2,BB,bC⟩:=f1 id id y1 (hn id (apN.1 hy).1) qB IE
  refine⟨y2,BB,?_⟩
  rcases bC with rfl|rfl
  ·exact .inl rfl
  ·exact bD
theorem gj.le{c:Ctx}{a:Act}{w:World}{s':List V}{ad:List Row}(h:gj c s rows a w)(hl:Le c.ρ.length s rows s' ad):gj c s' ad a w:=by
 obtain⟨ro,ρ,g,hs⟩:=h
 obtain⟨m,h1,h2,h3⟩:=hl
 obtain⟨f1,f2⟩:=h2.fwd g
 exact⟨ro,jG m ad ρ,g.le h2 h3,⟨h1.pI f1 f2 hs.pI,hs.marks⟩⟩
theorem DE{code:Code}{s':List V}{ad:List Row}(hl:Le n0 s rows s' ad)(h:aS P n0 code Q s' ad):aS P n0 code Q s rows:=by
 intro c a w hn hc rd hr
 obtain⟨rfl,go⟩:=hn
 exact h c a w ⟨rfl,go⟩ (hc.le hl) rd hr
theorem G5{p:Nat→Prop}(h: ∃n,p n): ∃n,p n∧ ∀m,p m→n≤m:=by
 obtain⟨n,hn⟩:=h
 induction n using Nat.strongRecOn with
 |_ n ih=>
  by_cases hm: ∃m,m<n∧p m
  ·obtain⟨m,h1,h2⟩:=hm
   exact ih m h1 h2
  ·exact⟨n,hn,fun m hp=>ar1 fun aO=>hm ⟨m,aO,hp⟩⟩
open Classical in
noncomputable def leastOf(p:Nat→Prop):Nat:=if h: ∃n,p n then Classical.choose (G5 h)else 0
theorem leastOf_spec{p:Nat→Prop}(h: ∃n,p n):p (leastOf p)∧ ∀m,p m→leastOf p≤m:=by
 unfold leastOf
 rw[dif_pos h]
 exact Classical.choose_spec (G5 h)
theorem T6{α:Type}(I:α→List V×List Row)(μ:α→Nat)(x0:α){code:Code}(h0:Le n0 s rows (I x0).1 (I x0).2)
  (round: ∀x,aS P n0 code (cZ (fun s' ad=> ∃x',μ x'<μ x∧Le n0 s' ad (I x').1 (I x').2) Q) (I x).1 (I x).2):aS P n0 (.loop code) Q s rows:=by
 intro c a w hn hc rd hr
 obtain⟨rfl,go⟩:=hn
 refine wpIn_loop (Q:=lift c Q) (fun a w=> ∃n x,μ x=n∧gj c (I x).1 (I x).2 a w) (fun a w=>leastOf fun n=> ∃x,μ x=n∧gj c (I x).1 (I x).2 a w) ⟨_,x0,rfl,hc.le h0⟩ ?_
 intro a w hI
 obtain⟨⟨x,hx,zu⟩,-⟩:=leastOf_spec hI
 refine wpIn_mono (round x c a w ⟨rfl,go⟩ zu rd hr) ?_
 rintro e a' w' ⟨s',ad,hQ,c8⟩
 cases e with
 |normal=>
  obtain⟨x',aO,hle⟩:=hQ
  have hI': ∃n x,μ x=n∧gj c (I x).1 (I x).2 a' w':=⟨_,x',rfl,c8.le hle⟩
  refine⟨hI',?_⟩
  have:=(leastOf_spec hI').2 (μ x') ⟨x',rfl,c8.le hle⟩
  omega
 |exit id=>exact⟨s',ad,hQ,c8⟩
 |goto l=>exact⟨s',ad,hQ,c8⟩
 |ret=>exact⟨s',ad,hQ,c8⟩
 |panic ch=>exact⟨s',ad,hQ,c8⟩
 |outgrown=>exact⟨s',ad,hQ,c8⟩
def kg(ops:Array Oper)(g:Option (Nat×Bool))(s:List V)(yes no:Prop):Prop:=
 match g with
 |none=>yes
 |some (j,want)=>match(ops[j]?).bind (·.dst)with
  |some d=>(match bL s d with
   |.bool b=>if b=want then yes else no
   |_=>False)
  |none=>False
def bj(P:Program)(ops:Array Oper):List Oper→List V→List Row→KS→Prop
 |[],s,rows,K=>K s rows
 |o::os,s,rows,K=>kg ops o.guard s (bF P false o.op rows.length s rows fun v ad=>bj P ops os (aD s o.dst v) ad K) (bj P ops os (aD s o.dst .aa) rows K)
theorem oA{c:Ctx}{w:World}{ro:Nat→Prop}{ρ:bP}{a:Act}{ops:Array Oper}{o:Oper}{yes no:Prop}(hs:eV b0 w ro ρ a s)(h:kg ops o.guard s yes no):
  (Region.wanted o (yielded ops a.tmps)=true∧yes)∨(Region.wanted o (yielded ops a.tmps)=false∧no):=by
 unfold kg at h
 split at h
 ·rename_i hg;exact .inl ⟨by simp[Region.wanted,hg],h⟩
 ·rename_i j want hg
  split at h
  ·rename_i d hd
   split at h
   ·rename_i b hb
    have aO:d<s.length:=by
     rcases apQ d s.length with h|h
     ·exact h
     ·rw[gb,aql h]at hb;simp at hb
    have PW:s[d]?=some (.bool b):=by
     rw[gb]at hb
     obtain⟨x,hx⟩:=aC aO
     rw[hx]at hb⊢
     simpa using hb
    obtain⟨u,hu,hr⟩:=hs.pI.get PW
    obtain rfl:=oa hr
    have hy:yielded ops a.tmps j=some b:=by
     unfold yielded
     rw[hd]
     have:a.tmps[d]?=some (.bool b):=by simpa using hu
     simp[this]
    have hw:Region.wanted o (yielded ops a.tmps)=(some b==some want):=by simp[Region.wanted,hg,hy]
    split at h
    ·rename_i e;subst e;exact .inl ⟨by rw[hw];simp,h⟩
    ·rename_i e;exact .inr ⟨by rw[hw];simpa using e,h⟩
   ·exact h.elim
  ·exact h.elim
theorem sd{c:Ctx}{w:World}{ro:Nat→Prop}{ρ:bP}{a:Act}{b0:Nat}{rd:Option Nat}{o:Oper}{draw:Bool}{id:Nat}{next:Act→World→Prop}{Q':Exit→Act→World→Prop}{k:KV}(go:iL P c)(hs:eV b0 w ro ρ a s)(g:Good c rows w ro ρ)
  (h:bF P draw o.op id s rows k) (hn: ∀v w' r ad aY ρ',k r ad→Good c ad w' aY ρ'→eV b0 w' aY ρ' (a.put o.dst v) (aD s o.dst r)→next (a.put o.dst v) w'):o.wpIn (fw rd) 0 P a w next Q':=by
 have hd:=rT (o:=o) go hs g h
 have j4: ∀c,o.op≠.defer c:=by
  intro c e
  rw[e]at h
  exact h
 have use: ∀v w',lU c k w ro ρ v w'→next (a.put o.dst v) w':=by
  rintro v w' ⟨r,ad,aY,ρ',h1,h2,h3,h4⟩
  exact hn v w' r ad aY ρ' h1 h2 ((hs.ext h4).put h3 o.dst)
 refine⟨fun _ _=>trivial,?_⟩
 rw[Oper.semAt_plain _ _ _ j4]
 generalize(execOp a.eval o).run P w=res at hd
 cases res with
 |halt x w'=>exact hd.elim
 |ok n w'=>
  cases n<;>try exact hd.elim
  case value v=>exact use v w' hd
  case skip=>exact use undef w' hd
  case enter f args=>
   refine⟨A7,Kh (Calls.mono hd ?_)⟩
   rintro e lV ⟨v,rfl,dN⟩
   exact use v lV dN
  case round l f tmps as bo=>
   refine⟨A7,Ki (RoundIn.mono hd ?_)⟩
   rintro e lV ⟨v,rfl,dN⟩
   exact use v lV dN
theorem EI{ops:Array Oper}{K:KS}: ∀(is:List Nat) (os:List Oper),is.length=os.length→(∀(t:Nat) i o,is[t]?=some i→os[t]?=some o→ops[i]?=some o)→ ∀(s:List V) (rows:List Row) (c:Ctx) (a:Act) (w:World) (rd:Option Nat),iL P c→
  bj P ops os s rows K→gj c s rows a w→wpOpsIn (fw rd) 0 P ops (lift c (cZ K Q)) is a w
 |[],[],_,_,s,rows,c,a,w,rd,_,h,hc=>⟨s,rows,h,hc⟩
 |[],_::_,hl,_,_,_,_,_,_,_,_,_,_=>by simp at hl
 |_::_,[],hl,_,_,_,_,_,_,_,_,_,_=>by simp at hl
 |i::is,o::os,hl,ho,s,rows,c,a,w,rd,go,h,hc=>by
  obtain⟨ro,ρ,g,hs⟩:=hc
  have vK:ops[i]?=some o:=ho 0 i o rfl rfl
  have ih:=fun s rows a w (h:bj P ops os s rows K) hc=>EI is os (by simpa using hl) (fun t i o h1 h2=>ho (t+1) i o (by simpa using h1) (by simpa using h2)) s rows c a w rd go h hc
  rw[wpOpsIn_cons]
  unfold wpOpIn
  simp only[vK]
  simp only[bj]at h
  rcases oA (c:=c) hs h with⟨hw,h⟩|⟨hw,h⟩
  ·rw[if_pos hw]
   refine sd (c:=c) go hs g h ?_
   intro v w' r ad aY ρ' h1 h2 h3
   exact ih _ _ _ _ h1 ⟨aY,ρ',h2,h3⟩
  ·rw[if_neg (by simp[hw])]
   exact⟨fun _ _=>trivial,ih _ _ _ _ h ⟨ro,ρ,g,hs.put .aa o.dst⟩⟩
theorem dg{id:Nat}{ops:Array Oper}(h:bj P ops ops.toList s rows (Q .normal)):aS P n0 (.region id ops false) Q s rows:=by
 intro c a w hn hc rd hr
 have:=EI (P:=P) (Q:=Q) (K:=Q .normal) (List.range ops.size) ops.toList (by simp) (fun t i o h1 h2=>by
  have aO:=(apN.1 h1).1
  simp at aO
  rw[aqK aO]at h1
  simp at h1
  subst h1
  simpa using h2) s rows c a w rd hn.2 h hc
 refine wpIn_mono (wpIn_region this) ?_
 rintro e a' w' ⟨s',ad,hQ,c8⟩
 cases e<;>exact⟨s',ad,hQ,c8⟩
def xo(P:Program)(s:List V)(rows:List Row):ResultVar→(V→Prop)→Prop
 |.tmp t,k=>k (bL s t)
 |.cell a t,k=>xz P t (bL s a) rows fun v _=>k v
def AJ(P:Program)(s:List V)(rows:List Row):List ResultVar→(List V→Prop)→Prop
 |[],k=>k []
 |r::rs,k=>xo P s rows r fun v=>AJ P s rows rs fun vs=>k (v::vs)
def pQ(P:Program)(s:List V)(rows:List Row)(rs:List ResultVar)(k:V→Prop):Prop:=
 AJ P s rows rs fun vs=>match vs with
  |[v]=>k v
  |vs=>k (.aB vs)
def H3(a:Act):ResultVar→Sem Value
 |.tmp t=>pure (a.tmps.getD t undef)
 |.cell a' t=>do loadVar t (←asAddr (a.tmps.getD a' undef))
theorem Sk{c:Ctx}{w:World}{ro:Nat→Prop}{ρ:bP}{a:Act}(g:Good c rows w ro ρ)(hs:eV b0 w ro ρ a s){r:ResultVar}{k:V→Prop}(h:xo P s rows r k):
  ∃u v,(H3 a r).run P w=.ok u w∧Rd w ro ρ u v∧k v:=by
 cases r with
 |tmp t=>exact⟨_,_,rfl,hs.eval (.tmp t),h⟩
 |cell a' t=>
  have hx:=hs.eval (.tmp a')
  simp only[ax]at hx
  have pU: ∀b,(Instr.loadAt t (a.eval (.tmp a'))).run P w=.ok b w→(do loadVar t (←asAddr (a.tmps.getD a' undef)):Sem Value).run P w=.ok b w:=by
   intro b hb
   show(do loadVar t (←asAddr (a.eval (.tmp a'))):Sem Value).run P w=.ok b w
   cases he:a.eval (.tmp a')with
   |pointer p=>
    cases p with
    |some p=>rw[he]at hb;simpa[Instr.loadAt,Instr.sureAddr,asAddr]using hb
    |none=>rw[he]at hb;simp[Instr.loadAt,Instr.sureAddr]at hb
   |_=>rw[he]at hb;simp[Instr.loadAt,Instr.sureAddr]at hb
  simp only[xo]at h
  have key: ∃u v,(Instr.loadAt t (a.eval (.tmp a'))).run P w=.ok u w∧Rd w ro ρ u v∧k v:=by
   have cells: ∀{b o off:Nat} {cs:List V},ct w ro ρ b o cs→gr P t cs off k→ ∃u v,(loadVar t ⟨b,o+off,none⟩).run P w=.ok u w∧Rd w ro ρ u v∧k v:=by
    intro b o off cs hc h
    unfold gr at h
    split at h
    ·rename_i ha
     obtain⟨n,hn,hle,hk⟩:=h
     obtain⟨us,hl,fQ⟩:=tR (P:=P) ((hc.drop off).take n)
     have hlen:((cs.drop off).take n).length=n:=by simp;omega
     rw[hlen]at hl
     exact⟨.agg us.toArray,_,by simp[loadVar,mH ha,cz hn,hl],bh.agg (by simpa using fQ),hk⟩
    ·rename_i ha
     obtain⟨v,hv,hk⟩:=h
     obtain⟨u,hu,hr⟩:=hc off v hv
     exact⟨u,v,by simp[loadVar,mH ha,hu],hr,hk⟩
    ·exact h.elim
   generalize bL s a'=x at h hx
   cases x with
   |ref id off=>
    obtain⟨cs,hl,bw,h⟩:=h
    obtain⟨x,fp,bA,e⟩:=vP g hx hl
    rw[e]
    obtain⟨u,v,q1,q2⟩:=cells bA.pR h
    exact⟨u,v,by simpa[Instr.loadAt,Instr.sureAddr]using q1,q2⟩
   |aL cs=>
    obtain⟨b,o,e,gd,bA⟩:=wP hx
    rw[e]
    obtain⟨u,v,q1,q2⟩:=cells (b:=b) (o:=o) (off:=0) (fun i v hv=>by obtain⟨u,hu,hr⟩:=bA i v hv;exact⟨u,hu,hr.Pr⟩) h
    exact⟨u,v,by simpa[Instr.loadAt,Instr.sureAddr]using q1,q2⟩
   |_=>exact False.elim h
  obtain⟨u,v,q1,q2⟩:=key
  exact⟨u,v,pU u q1,q2⟩
theorem G6{c:Ctx}{w:World}{ro:Nat→Prop}{ρ:bP}{a:Act}(g:Good c rows w ro ρ)(hs:eV b0 w ro ρ a s): ∀{rs:List ResultVar} {k:List V→Prop},AJ P s rows rs k→
  ∃us vs,(rs.mapM (H3 a)).run P w=.ok us w∧bh w ro ρ us vs∧k vs
 |[],k,h=>⟨[],[],rfl,⟨rfl,fun i u x h=>by simp at h⟩,h⟩
 |r::rs,k,h=>by
  obtain⟨u,v,h1,h2,h3⟩:=Sk g hs h
  obtain⟨us,vs,q1,q2,q3⟩:=G6 g hs h3
  refine⟨u::us,v::vs,?_,⟨by simp[q2.1],fun i b x hb hx=>?_⟩,q3⟩
  ·rw[List.mapM_cons]
   simp only[Sem.run_bind]
   rw[h1]
   simp only[Result.andThen_ok,Sem.run_bind]
   rw[q1]
   rfl
  ·cases i with
   |zero=>simp at hb hx;subst hb;subst hx;exact h2
   |succ i=>exact q2.2 i b x (by simpa using hb) (by simpa using hx)
theorem UQ{c:Ctx}{w:World}{ro:Nat→Prop}{ρ:bP}{a:Act}{fn:Func}(g:Good c rows w ro ρ)(hs:eV b0 w ro ρ a s){k:V→Prop}(h:pQ P s rows fn.results.toList k):
  ∃u v,(results fn a.tmps).run P w=.ok u w∧Rd w ro ρ u v∧k v:=by
 obtain⟨us,vs,h1,h2,h3⟩:=G6 g hs h
 have hm:(fn.results.mapM (H3 a)).run P w=.ok us.toArray w:=by
  rw[Array.mapM_eq_mapM_toList]
  simp only[Sem.run_map,h1,Result.andThen_ok]
 have gD:(results fn a.tmps).run P w=.ok (if h:us.toArray.size=1 then us.toArray[0]else .tuple us.toArray) w:=by
  show(do let vs←fn.results.mapM (H3 a);pure (if h:vs.size=1 then vs[0]else .tuple vs):Sem Value).run P w=_
  simp only[Sem.run_bind]
  rw[hm]
  rfl
 match us,vs,h2,h3,gD with
 |[u],[v],h2,h3,gD=>exact⟨u,v,by simpa using gD,h2.2 0 u v rfl rfl,h3⟩
 |[],[],h2,h3,gD=>exact⟨_,_,gD,bh.aB (by simpa using h2),h3⟩
 |u::u'::us,v::v'::vs,h2,h3,gD=>exact⟨_,_,by simpa using gD,bh.aB (by simpa using h2),h3⟩
 |[],_::_,h2,_,_=>simp[bh]at h2
 |[_],[],h2,_,_=>simp[bh]at h2
 |[_],_::_::_,h2,_,_=>simp[bh]at h2
 |_::_::_,[],h2,_,_=>simp[bh]at h2
 |_::_::_,[_],h2,_,_=>simp[bh]at h2
theorem Good.mark{c:Ctx}{w:World}{ro:Nat→Prop}{ρ:bP}(g:Good c rows w ro ρ){D:Nat}(hD:c.w.heap.size≤D)(ho:w.heap[D]?=some (.deferred (some []))):
  Good c rows (w.putObj D (.deferred none)) ro ρ∧ ∀{u x},Rd w ro ρ u x→Rd (w.putObj D (.deferred none)) ro ρ u x:=by
 have aO:D<w.heap.size:=(ap4.1 ho).1
 have other: ∀b,b≠D→(w.putObj D (.deferred none)).heap[b]?=w.heap[b]?:=fun b hb=>World.putObj_heap_other hb
 have hc: ∀a,(w.putObj D (.deferred none)).cell? a=w.cell? a:=by
  intro a
  by_cases e:a.block=D
  ·simp only[World.cell?,e,World.putObj_heap_same aO,ho]
  ·simp only[World.cell?,other _ e]
 have hl: ∀(b:Nat) r,w.heap[b]?=some (.loop r)→(w.putObj D (.deferred none)).heap[b]?=some (.loop r):=by
  intro b r h
  rw[other b (by rintro rfl;rw[ho]at h;cases h)]
  exact h
 have rd: ∀{u x},Rd w ro ρ u x→Rd (w.putObj D (.deferred none)) ro ρ u x:=fun h=>h.same hc hl
 refine⟨⟨g.os,g.tape,g.output,by simpa using g.size,fun b hb hm=>?_,fun b hb=>by simpa using g.iN b hb,g.gW,g.len,g.cK,g.inj,fun id r hr=>?_,⟨g.ext.fg,fun b hb=>?_,g.ext.own⟩⟩,rd⟩
 ·rw[other b (by omega)];exact g.eW b hb hm
 ·have:=g.row id r hr
  cases r with
  |bu=>exact this
  |dead=>exact this
  |live cs=>
   rcases this with⟨x,hx,C,t,fr,q1,q2,q3,q4,q5⟩|hv
   ·refine .inl ⟨x,hx,C,t,fr,?_,q2,q3,q4,fun i v hv=>?_⟩
    ·rw[other _ (by intro e;rw[e,ho]at q1;cases q1)];exact q1
    ·obtain⟨u,hu,hr⟩:=q5 i v hv
     exact⟨u,hu,rd hr⟩
   ·exact .inr hv
 ·rw[other b ?_]
  ·exact g.ext.heap b hb
  ·rintro rfl
   have:=g.ext.heap b hb
   rw[ho,Array.getElem?_eq_none hD]at this
   cases this
theorem Ag{c:Ctx}{ro:Nat→Prop}{ρ:bP}{fn:Func}{tmps:Array Value}{R:Ending→World→Prop}: ∀(Ds:List Nat) (w:World),Ds.Nodup→(∀D∈Ds,c.w.heap.size≤D∧w.heap[D]?=some (.deferred (some [])))→Good c rows w ro ρ→bh w ro ρ tmps.toList s→
  (∀w',Good c rows w' ro ρ→bh w' ro ρ tmps.toList s→ ∃v,(results fn tmps).run P w'=.ok v w'∧R (.returned v) w')→LeavesInM Fence.wide 0 P fn tmps R (Ds.map fun D=>{target:=.collected D,args:=#[]}) .returning w
 |[],w,_,_,g,hr,h=>h w g hr
 |D::Ds,w,hn,hD,g,hr,h=>by
  obtain⟨h1,h2⟩:=hD D (by simp)
  obtain⟨g',rd⟩:=g.mark h1 h2
  rw[List.nodup_cons]at hn
  refine⟨by simp,.inl ⟨D,_,rfl,run_takeDeferred h2,Ag Ds _ hn.2 (fun D' hD'=>⟨(hD D' (by simp[hD'])).1,?_⟩) g' ⟨hr.1,fun i u x hu hx=>rd (hr.2 i u x hu hx)⟩ h⟩⟩
  rw[World.putObj_heap_other (by rintro rfl;exact hn.1 hD')]
  exact(hD D' (by simp[hD'])).2
def bz(P:Program)(rs:List ResultVar)(R:V→List Row→Prop):Exit→KS
 |.normal,s,rows|.ret,s,rows=>pQ P s rows rs fun r=>R r rows
 |_,_,_=>False
theorem jH{f:FuncId}{fn:Func}{code:Code}{args:List V}{R:V→List Row→Prop}(hf:P.funcs[f]?=some fn)(hb:fn.body=some code)(he:Enters P f)
  (h:aS P rows.length code (bz P fn.results.toList R) (args++List.replicate (fn.ntmps-args.length) .aa) rows):cO P f args rows R:=by
 refine⟨he,fun w ro ρ vs g go ha=>?_⟩
 have cm:vs.size=args.length:=by simpa using ha.1
 have aaZ:eV w.heap.size w ro ρ {tmps:=vs++Array.replicate (fn.ntmps-vs.size) undef,defers:=[]} (args++List.replicate (fn.ntmps-args.length) .aa):=by
  refine⟨?_,[],rfl,arR,fun D h=>by simp at h⟩
  show bh w ro ρ (vs++Array.replicate (fn.ntmps-vs.size) undef).toList _
  rw[Array.toList_append,Array.toList_replicate,cm]
  exact ha.append ⟨by simp,fun i u x hu hx=>by
   rw[arh]at hx
   split at hx
   ·simp at hx;subst hx;exact .aa
   ·simp at hx⟩
 refine callsIn_wide.1 (callsIn_of_wp_marks (F:=Fence.wide) (n:=0) hf hb trivial (wpIn_mono (h ⟨w,ro,ρ⟩ _ w ⟨g.len,go⟩ ⟨ro,ρ,g,aaZ⟩ none .none) ?_))
 rintro e a' w' ⟨s',ad,hQ,aY,ρ',g',Nv⟩
 obtain⟨Ds,h1,h2,h3⟩:=Nv.marks
 have fin:pQ P s' ad fn.results.toList (fun r=>R r ad)→LeavesInM Fence.wide 0 P fn a'.tmps (fun e w'=> ∃v r ad aY ρ',e=.returned v∧R r ad∧Good ⟨w,ro,ρ⟩ ad w' aY ρ'∧Rd w' aY ρ' v r) a'.defers .returning w':=fun hQ=>by
  rw[h1]
  refine Ag Ds w' h2 (fun D hD=>⟨(h3 D hD).1,(h3 D hD).2.2⟩) g' Nv.pI fun lV MF hr=>?_
  obtain⟨u,v,q1,q2,q3⟩:=UQ (a:={tmps:=a'.tmps,defers:=[]}) (b0:=0) MF ⟨hr,[],rfl,arR,fun D h=>by simp at h⟩ hQ
  exact⟨u,q1,u,v,ad,aY,ρ',rfl,q3,MF,q2⟩
 cases e with
 |normal=>exact fin hQ
 |ret=>exact fin hQ
 |exit id=>exact hQ.elim
 |goto l=>exact hQ.elim
 |panic ch=>exact hQ.elim
 |outgrown=>exact hQ.elim
theorem ao.view{f:FuncId}{args:List V}{r:V}(hp:r.Pure)(h:cO P f args [] fun r' ad=>View ad r' r):ao P f args r:=by
 refine⟨hp,h.1,fun w ro ρ vs g go ha=>(h.2 w ro ρ vs g go ha).mono ?_⟩
 rintro e w' ⟨v,r',ad,aY,ρ',rfl,hv,g',hr⟩
 have kc:ρ=[]:=apW g.len
 subst kc
 refine⟨v,r,[],nP aY ρ',[],rfl,rfl,?_,hv.rd g' hr []⟩
 have cY:Ext w' aY ρ' w' (nP aY ρ') ρ':=⟨fun _ h=>.inl h,fun _ _=>rfl,fun id y h _=>⟨y,h,.inr rfl⟩⟩
 have he:=g'.ext.trans cY
 refine⟨g'.os,g'.tape,g'.output,g'.size,g'.eW,fun b hb=>?_,fun b hb=>?_,rfl,fun id x h=>by simp at h,fun i j x y h=>by simp at h,fun id r h=>by simp at h,⟨he.fg,he.heap,fun id y h=>by simp at h⟩⟩
 ·rcases hb with hb|⟨id,x,h,rfl⟩
  ·exact g'.iN b hb
  ·exact g'.oP h
 ·rcases hb with hb|⟨id,x,h,rfl⟩
  ·exact g'.gW b hb
  ·exact .inr (g'.cK id x h).1
theorem ah{f:FuncId}{fn:Func}{code:Code}{args:List V}{r:V}(hf:P.funcs[f]?=some fn)(hb:fn.body=some code)(he:Enters P f)(hp:r.Pure)
  (h:aS P 0 code (bz P fn.results.toList fun r' ad=>View ad r' r) (args++List.replicate (fn.ntmps-args.length) .aa) []):ao P f args r:=
 .view hp (jH hf hb he h)
end
end Go.VS
set_option linter.all false
namespace Go.VS
attribute [simp] bF ax ofConst ku bL aD sset cZ jv bz pQ AJ xo vA tK vt KH apart gr xz KI UJ x7 wO x8 tP vB KJ DV eI uZ FM ic FL Pp js gT x9 eB dB da b7 qS List.replicate
@[simp] theorem Ip(b:UInt8):toByte (aF b)=b:=by simp[aF,toByte]
@[simp] theorem aa0(b:UInt8):(aF b).isByte=true:=rfl
@[simp] theorem ad4(b:UInt8):(aF b).one=true:=rfl
@[simp] theorem agi{b:Bool}:(V.bool b).one=true:=rfl
@[simp] theorem abv{b:Bool}:(V.bool b).eK=true:=rfl
@[simp] theorem abw{b:Bool}:(V.bool b).isByte=false:=rfl
@[simp] theorem ahp{k:IntKind}{n:Int}:(V.int k n).one=true:=rfl
@[simp] theorem acx{k:IntKind}{n:Int}:(V.int k n).eK=false:=rfl
@[simp] theorem ahq{b:List UInt8}:(V.str b).one=true:=rfl
@[simp] theorem acy{b:List UInt8}:(V.str b).eK=false:=rfl
@[simp] theorem acz{b:List UInt8}:(V.str b).isByte=false:=rfl
@[simp] theorem agj :V.bR.one=true:=rfl
@[simp] theorem abx :V.bR.eK=true:=rfl
@[simp] theorem aby :V.bR.isByte=false:=rfl
@[simp] theorem ahr{i o:Nat}:(V.ref i o).one=true:=rfl
@[simp] theorem acA{i o:Nat}:(V.ref i o).eK=true:=rfl
@[simp] theorem acB{i o:Nat}:(V.ref i o).isByte=false:=rfl
@[simp] theorem agk{c:List V}:(V.aL c).one=true:=rfl
@[simp] theorem abz{c:List V}:(V.aL c).eK=true:=rfl
@[simp] theorem abA{c:List V}:(V.aL c).isByte=false:=rfl
@[simp] theorem agl :V.aj.one=true:=rfl
@[simp] theorem abB :V.aj.eK=true:=rfl
@[simp] theorem abC :V.aj.isByte=false:=rfl
@[simp] theorem ai0{n:Nat}{c:List V}:(V.sl n c).one=true:=rfl
@[simp] theorem ad5{n:Nat}{c:List V}:(V.sl n c).eK=true:=rfl
@[simp] theorem ad6{n:Nat}{c:List V}:(V.sl n c).isByte=false:=rfl
@[simp] theorem ahs{i o n z:Nat}:(V.av i o n z).one=true:=rfl
@[simp] theorem acC{i o n z:Nat}:(V.av i o n z).eK=true:=rfl
@[simp] theorem acD{i o n z:Nat}:(V.av i o n z).isByte=false:=rfl
@[simp] theorem ai1{f:Fn}{c:List V}:(V.fn f c).one=true:=rfl
@[simp] theorem ad7{f:Fn}{c:List V}:(V.fn f c).eK=true:=rfl
@[simp] theorem ad8{f:Fn}{c:List V}:(V.fn f c).isByte=false:=rfl
@[simp] theorem agm :V.aq.one=true:=rfl
@[simp] theorem abD :V.aq.eK=true:=rfl
@[simp] theorem abE :V.aq.isByte=false:=rfl
@[simp] theorem acE :V.cL.one=true:=rfl
@[simp] theorem XC :V.cL.eK=false:=rfl
@[simp] theorem XD :V.cL.isByte=false:=rfl
@[simp] theorem ad9{t:TypeId}{x:V}:(V.iface t x).one=true:=rfl
@[simp] theorem aa1{t:TypeId}{x:V}:(V.iface t x).eK=true:=rfl
@[simp] theorem aa2{t:TypeId}{x:V}:(V.iface t x).isByte=false:=rfl
@[simp] theorem aht{c:List V}:(V.agg c).one=false:=rfl
@[simp] theorem acF{c:List V}:(V.agg c).eK=true:=rfl
@[simp] theorem acG{c:List V}:(V.agg c).isByte=false:=rfl
@[simp] theorem agn :V.aa.one=false:=rfl
@[simp] theorem acH{a:Option Addr}{n c:Nat}:(V.val (.slice a n c)).eK=true:=rfl
@[simp] theorem abF :V.aa.eK=false:=rfl
@[simp] theorem abG :V.aa.isByte=false:=rfl
@[simp] theorem aea{n:Int}:(V.int .u8 n).isByte=true:=rfl
@[simp] theorem aeb{n:Int}:toByte (V.int .u8 n)=UInt8.ofNat n.toNat:=rfl
@[simp] theorem aa3{b:UInt8}:eH (aF b)=some [aF b]:=rfl
@[simp] theorem acI{c:List V}:eH (.agg c)=some c:=rfl
@[simp] theorem abH{b:Bool}:eH (V.bool b)=some [(V.bool b)]:=rfl
@[simp] theorem acJ{k:IntKind}{n:Int}:eH (V.int k n)=some [(V.int k n)]:=rfl
@[simp] theorem acK{b:List UInt8}:eH (V.str b)=some [(V.str b)]:=rfl
@[simp] theorem abI :eH V.bR=some [V.bR]:=rfl
@[simp] theorem acL{i o:Nat}:eH (V.ref i o)=some [(V.ref i o)]:=rfl
@[simp] theorem abJ{c:List V}:eH (V.aL c)=some [(V.aL c)]:=rfl
@[simp] theorem abK :eH V.aj=some [V.aj]:=rfl
@[simp] theorem aec{n:Nat}{c:List V}:eH (V.sl n c)=some [(V.sl n c)]:=rfl
@[simp] theorem acM{i o n z:Nat}:eH (V.av i o n z)=some [(V.av i o n z)]:=rfl
@[simp] theorem aed{f:Fn}{c:List V}:eH (V.fn f c)=some [(V.fn f c)]:=rfl
@[simp] theorem abL :eH V.aq=some [V.aq]:=rfl
@[simp] theorem XE :eH V.cL=some [V.cL]:=rfl
@[simp] theorem aa4{t:TypeId}{x:V}:eH (V.iface t x)=some [(V.iface t x)]:=rfl
@[simp] theorem acN(b:UInt8):(aF b).Pure:=.int
section
variable {ex : Bool} {m : List (Option Nat)}
@[simp] theorem ago{y:V}:Ren false m .aa y:=.aa rfl
@[simp] theorem ahu{k:IntKind}{n:Int}{y:V}:Ren ex m (.int k n) y↔y=.int k n:=⟨fun h=>by cases h;rfl,fun h=>by subst h;exact .pure .int⟩
@[simp] theorem agp{b:Bool}{y:V}:Ren ex m (.bool b) y↔y=.bool b:=⟨fun h=>by cases h;rfl,fun h=>by subst h;exact .pure .bool⟩
@[simp] theorem ahv{b:List UInt8}{y:V}:Ren ex m (.str b) y↔y=.str b:=⟨fun h=>by cases h;rfl,fun h=>by subst h;exact .pure .str⟩
@[simp] theorem agq{y:V}:Ren ex m .bR y↔y=.bR:=⟨fun h=>by cases h;rfl,fun h=>by subst h;exact .pure .bR⟩
@[simp] theorem agr{y:V}:Ren ex m .aj y↔y=.aj:=⟨fun h=>by cases h;rfl,fun h=>by subst h;exact .pure .aj⟩
@[simp] theorem ags{y:V}:Ren ex m .aq y↔y=.aq:=⟨fun h=>by cases h;rfl,fun h=>by subst h;exact .pure .aq⟩
@[simp] theorem acO{y:V}:Ren ex m .cL y↔y=.cL:=⟨fun h=>by cases h;rfl,fun h=>by subst h;exact .pure .cL⟩
@[simp] theorem ai2{n:Nat}{c:List V}{y:V}:Ren ex m (.sl n c) y↔y=.sl n c:=⟨fun h=>by cases h;rfl,fun h=>by subst h;exact .pure .sl⟩
@[simp] theorem agt{c:List V}{y:V}:Ren ex m (.aL c) y↔y=.aL c:=⟨fun h=>by cases h;rfl,fun h=>by subst h;exact .pure .aL⟩
@[simp] theorem ahw{u:Value}{y:V}:Ren ex m (.val u) y↔y=.val u:=⟨fun h=>by cases h;rfl,fun h=>by subst h;exact .pure .val⟩
@[simp] theorem ahx{j i o p:Nat}:Ren ex m (.ref j o) (.ref i p)↔m[j]?=some (some i)∧p=o:=
 ⟨fun h=>by cases h with|pure h=>cases h|ref h=>exact⟨h,rfl⟩,fun h=>by obtain⟨h,rfl⟩:=h;exact .ref h⟩
@[simp] theorem ahy{j i o p n n' z z':Nat}:Ren ex m (.av j o n z) (.av i p n' z')↔m[j]?=some (some i)∧p=o∧n'=n∧z'=z:=
 ⟨fun h=>by cases h with|pure h=>cases h|av h=>exact⟨h,rfl,rfl,rfl⟩,fun h=>by obtain⟨h,rfl,rfl,rfl⟩:=h;exact .av h⟩
@[simp] theorem aa5{j o n z:Nat}:Ren false m (.av j o n z) .aj↔m[j]?=some none∧n=0:=
 ⟨fun h=>by cases h with|nil _ h=>exact⟨h,rfl⟩,fun h=>by obtain⟨h,rfl⟩:=h;exact .nil rfl h⟩
@[simp] theorem agu:dI ex m [] []↔True:=Iff.rfl
@[simp] theorem aee{x y:V}{xs ys:List V}:dI ex m (x::xs) (y::ys)↔Ren ex m x y∧dI ex m xs ys:=Iff.rfl
theorem KZ(rows:List Row):jl [] [] rows:=⟨rfl,fun j j' i _ _ h=>by simp at h,fun j i r h=>by simp at h,fun j r h=>by simp at h⟩
end
theorem Le.drop{s s':List V}{rows:List Row}(h:dI false [] s' s):Le 0 s rows s' []:=⟨[],h,KZ rows,fun j h=>by omega⟩
theorem Le.mk{n0:Nat}{s s':List V}{rows ad:List Row}(m:List (Option Nat))(h:dI false m s' s)(hr:jl m ad rows)(hn: ∀j,j<n0→m[j]?=some (some j)):Le n0 s rows s' ad:=⟨m,h,hr,hn⟩
def ae(M:List (Option Nat))(rows:List Row):List (Option Nat)→List Row→Prop
 |[],[]=>True
 |none::m,r'::rs=>r'=.live []∧ae M rows m rs
 |some i::m,r'::rs=>(∃r,rows[i]?=some r∧nd false M r' r)∧ae M rows m rs
 |_,_=>False
theorem iP{M:List (Option Nat)}{rows:List Row}: ∀{m:List (Option Nat)} {rs:List Row},ae M rows m rs→rs.length=m.length∧
  (∀(j i:Nat) r',m[j]?=some (some i)→rs[j]?=some r'→ ∃r,rows[i]?=some r∧nd false M r' r)∧(∀(j:Nat) r',m[j]?=some none→rs[j]?=some r'→r'=.live [])
 |[],[],_=>⟨rfl,fun j i r h=>by simp at h,fun j r h=>by simp at h⟩
 |[],_::_,h=>h.elim
 |none::_,[],h=>h.elim
 |some _::_,[],h=>h.elim
 |none::m,r'::rs,h=>by
  obtain⟨h1,h2,h3⟩:=iP h.2
  refine⟨by simp[h1],fun j i r hj hr=>?_,fun j r hj hr=>?_⟩
  ·cases j with
   |zero=>simp at hj
   |succ j=>exact h2 j i r (by simpa using hj) (by simpa using hr)
  ·cases j with
   |zero=>simp at hr;rw[←hr];exact h.1
   |succ j=>exact h3 j r (by simpa using hj) (by simpa using hr)
 |some i::m,r'::rs,h=>by
  obtain⟨h1,h2,h3⟩:=iP h.2
  refine⟨by simp[h1],fun j i r hj hr=>?_,fun j r hj hr=>?_⟩
  ·cases j with
   |zero=>simp at hj hr;subst hj;subst hr;exact h.1
   |succ j=>exact h2 j i r (by simpa using hj) (by simpa using hr)
  ·cases j with
   |zero=>simp at hj
   |succ j=>exact h3 j r (by simpa using hj) (by simpa using hr)
theorem zA{m:List (Option Nat)}(h:(m.filterMap id).Nodup): ∀(j j' i:Nat),m[j]?=some (some i)→m[j']?=some (some i)→j=j':=by
 induction m with
 |nil=>intro j j' i h;simp at h
 |cons x m ih=>
  intro j j' i h1 h2
  have hm:(m.filterMap id).Nodup:=by
   cases x with
   |none=>simpa using h
   |some x=>simp at h;exact h.2
  have mem: ∀t:Nat,m[t]?=some (some i)→i∈m.filterMap id:=fun t ht=>List.mem_filterMap.2 ⟨some i,aqg ht,rfl⟩
  cases j with
  |zero=>
   cases j' with
   |zero=>rfl
   |succ j'=>
    simp at h1 h2
    subst h1
    simp at h
    exact absurd h2 (fun h2=>by
     have:=mem j' h2
     simp at this
     obtain⟨⟩:=h
     simp_all)
  |succ j=>
   cases j' with
   |zero=>
    simp at h1 h2
    subst h2
    simp at h
    exact absurd h1 (fun h1=>by
     have:=mem j h1
     simp at this
     simp_all)
   |succ j'=>
    have:=ih hm j j' i (by simpa using h1) (by simpa using h2)
    omega
theorem aZ{m:List (Option Nat)}{rows ad:List Row}(hn:(m.filterMap id).Nodup)(h:ae m rows m ad):jl m ad rows:=
 let⟨h1,h2,h3⟩:=iP h
 ⟨h1,fun j j' i _ _ a b _ _=>zA hn j j' i a b,h2,h3⟩
end Go.VS
set_option linter.all false
namespace Go.VS
section
variable {P : Program}
theorem Sl{op:BinOp}{kd cH:IntKind}{a b:Int}{k:V→Prop}(h:tK op kd a cH b k): ∃v,k v∧ ∀k2:V→Prop,k2 v→tK op kd a cH b k2:=by
 cases op<;>simp only[tK]at h⊢
 case quo=>obtain⟨h1,h2,h3⟩:=h;exact⟨_,h3,fun k2 h=>⟨h1,h2,h⟩⟩
 case rem=>obtain⟨h1,h2,h3⟩:=h;exact⟨_,h3,fun k2 h=>⟨h1,h2,h⟩⟩
 all_goals(obtain⟨h1,h2⟩:=h;exact⟨_,h2,fun k2 h=>⟨h1,h⟩⟩)
theorem Sm{op:BinOp}{a b:List UInt8}{k:V→Prop}(h:vt op a b k): ∃v,k v∧ ∀k2:V→Prop,k2 v→vt op a b k2:=by
 cases op<;>simp only[vt]at h⊢
 case add=>obtain⟨h1,h2⟩:=h;exact⟨_,h2,fun k2 h=>⟨h1,h⟩⟩
 all_goals first|exact⟨_,h,fun k2 h=>h⟩|exact h.elim
theorem Sn{op:BinOp}{xt:TypeId}{x y:V}{k:V→Prop}(h:vA P op xt x y k): ∃v,k v∧ ∀k2:V→Prop,k2 v→vA P op xt x y k2:=by
 unfold vA at h⊢
 split at h
 ·exact Sl h
 ·exact Sm h
 ·split at h
  ·obtain⟨h1,h2,r,h3,h4⟩:=h;exact⟨_,h4,fun k2 h=>⟨h1,h2,r,h3,h⟩⟩
  ·obtain⟨h1,h2,r,h3,h4⟩:=h;exact⟨_,h4,fun k2 h=>⟨h1,h2,r,h3,h⟩⟩
  ·exact h.elim
theorem UR{op:UnOp}{x:V}{k:V→Prop}(h:KH op x k): ∃v,k v∧ ∀k2:V→Prop,k2 v→KH op x k2:=by
 unfold KH at h⊢
 split at h<;>first|exact⟨_,h,fun k2 h=>h⟩|exact h.elim
theorem EJ{t:TypeId}{cs:List V}{off:Nat}{k:V→Prop}(h:apart P t cs off k): ∃v,k v∧ ∀k2:V→Prop,k2 v→apart P t cs off k2:=by
 unfold apart at h⊢
 split at h
 ·obtain⟨n,h1,h2⟩:=h;exact⟨_,h2,fun k2 h=>⟨n,h1,h⟩⟩
 ·obtain⟨n,h1,h2⟩:=h;exact⟨_,h2,fun k2 h=>⟨n,h1,h⟩⟩
 ·exact h.elim
theorem vn{t:TypeId}{cs:List V}{off:Nat}{k:V→Prop}(h:gr P t cs off k): ∃v,k v∧ ∀k2:V→Prop,k2 v→gr P t cs off k2:=by
 unfold gr at h⊢
 split at h
 ·obtain⟨n,h1,h2,h3⟩:=h;exact⟨_,h3,fun k2 h=>⟨n,h1,h2,h⟩⟩
 ·obtain⟨n,h1,h2⟩:=h;exact⟨_,h2,fun k2 h=>⟨n,h1,h⟩⟩
 ·exact h.elim
theorem Mm{t:TypeId}{x:V}{f:Nat}{k:V→Prop}(h:tP P t x f k): ∃v,k v∧ ∀k2:V→Prop,k2 v→tP P t x f k2:=by
 unfold tP at h⊢
 split at h
 ·obtain⟨ft,o,h1,h2⟩:=h
  obtain⟨v,h3,h4⟩:=EJ h2
  exact⟨v,h3,fun k2 h=>⟨ft,o,h1,h4 k2 h⟩⟩
 ·exact h.elim
theorem Mn{t:TypeId}{x ix:V}{k:V→Prop}(h:wO P t x ix k): ∃v,k v∧ ∀k2:V→Prop,k2 v→wO P t x ix k2:=by
 unfold wO at h⊢
 split at h
 ·split at h
  ·obtain⟨n,e,sz,h1,h2,h3,h4,h5⟩:=h
   obtain⟨v,h6,h7⟩:=EJ h5
   exact⟨v,h6,fun k2 h=>⟨n,e,sz,h1,h2,h3,h4,h7 k2 h⟩⟩
  ·obtain⟨h1,h2,b,h3,h4⟩:=h
   exact⟨_,h4,fun k2 h=>⟨h1,h2,b,h3,h⟩⟩
  ·exact h.elim
 ·exact h.elim
theorem So{t:TypeId}{x:V}{k:V→Prop}(h:FM P t x k): ∃v,k v∧ ∀k2:V→Prop,k2 v→FM P t x k2:=by
 unfold FM at h⊢
 split at h
 ·exact⟨_,h.2,fun k2 h'=>⟨h.1,h'⟩⟩
 ·exact⟨_,h.2,fun k2 h'=>⟨h.1,h'⟩⟩
 ·exact⟨_,h.2,fun k2 h'=>⟨h.1,h'⟩⟩
 ·exact⟨_,h.2,fun k2 h'=>⟨h.1,h'⟩⟩
 ·obtain⟨n,e,h1,h2⟩:=h;exact⟨_,h2,fun k2 h=>⟨n,e,h1,h⟩⟩
theorem Ah{mx:Bool}{xs:List V}{k:V→Prop}(h:js mx xs k): ∃v,k v∧ ∀k2:V→Prop,k2 v→js mx xs k2:=by
 unfold js at h⊢
 split at h
 ·exact⟨_,h.2,fun k2 h'=>⟨h.1,h'⟩⟩
 ·exact⟨_,h.2.2,fun k2 h'=>⟨h.1,h.2.1,h'⟩⟩
 ·exact h.elim
theorem rS{place:Nat→Option (Nat×Nat)}{ρ:Operand→V}: ∀{parts:List (Nat×Operand)} {cs:List V} {k:List V→Prop},nQ place ρ parts cs k→ ∃ds,k ds∧ ∀k2:List V→Prop,k2 ds→nQ place ρ parts cs k2
 |[],cs,k,h=>⟨cs,h,fun k2 h=>h⟩
 |(i,x)::r,cs,k,h=>by
  obtain⟨off,sz,vs,h1,h2,h3,h4,h5⟩:=h
  obtain⟨ds,h6,h7⟩:=rS h5
  exact⟨ds,h6,fun k2 h=>⟨off,sz,vs,h1,h2,h3,h4,h7 k2 h⟩⟩
theorem B6{o:Option V}{d:Nat}{k:Nat→Prop}(h:eI o d k): ∃n,k n∧ ∀k2:Nat→Prop,k2 n→eI o d k2:=by
 unfold eI at h⊢
 split at h
 ·exact⟨_,h,fun k2 h=>h⟩
 ·exact⟨_,h.2,fun k2 h'=>⟨h.1,h'⟩⟩
 ·exact h.elim
theorem gI{lo hi:Option V}{n:Nat}{k:Nat→Nat→Prop}(h:eI hi n fun e=>eI lo 0 fun l=>l≤e∧e≤n∧k l e):
  ∃l e,k l e∧ ∀k2:Nat→Nat→Prop,k2 l e→eI hi n fun e=>eI lo 0 fun l=>l≤e∧e≤n∧k2 l e:=by
 obtain⟨e,h1,h2⟩:=B6 h
 obtain⟨l,⟨h3,h4,h5⟩,h6⟩:=B6 h1
 exact⟨l,e,h5,fun k2 h=>h2 _ (h6 _ ⟨h3,h4,h⟩)⟩
def kP(rows ar:List Row):Prop:= ∀(j:Nat) cs,rows[j]?=some (.live cs)→ar[j]?=some (.live cs)∨ar[j]?=some .bu
theorem US{c:Ctx}{rows:List Row}{w:World}{ro:Nat→Prop}{ρ:bP}{u:Value}{id off:Nat}(g:Good c rows w ro ρ)(h:Rd w ro ρ u (.ref id off)):rows[id]?≠some .bu:=by
 intro hr
 have:=g.row id _ hr
 cases h with
 |ref h1 h2 h3 h4=>
  simp only[cX]at this
  rw[this]at h1
  simp at h1
  exact h2 h1.symm
theorem UT{c:Ctx}{rows:List Row}{w:World}{ro:Nat→Prop}{ρ:bP}{u:Value}{id off n sz:Nat}(g:Good c rows w ro ρ)(h:Rd w ro ρ u (.av id off n sz)):rows[id]?≠some .bu:=by
 intro hr
 have:=g.row id _ hr
 simp only[cX]at this
 cases h with
 |iw h1 h2 h3=>
  rw[this]at h1
  simp at h1
  exact h2 h1.symm
 |av h1 h2 h3 h4=>
  rw[this]at h1
  simp at h1
  exact h2 h1.symm
section
variable {c : Ctx} {rows ar : List Row} {w : World} {ro : Nat → Prop} {ρ : bP}
theorem kP.ref(ha:kP rows ar)(g:Good c ar w ro ρ){u:Value}{id off:Nat}{cs:List V}(h:Rd w ro ρ u (.ref id off))(hl:rows[id]?=some (.live cs)):ar[id]?=some (.live cs):=
 (ha id cs hl).resolve_right (US g h)
theorem kP.av(ha:kP rows ar)(g:Good c ar w ro ρ){u:Value}{id off n sz:Nat}{cs:List V}(h:Rd w ro ρ u (.av id off n sz))(hl:rows[id]?=some (.live cs)):ar[id]?=some (.live cs):=
 (ha id cs hl).resolve_right (UT g h)
theorem Good.Sp(g:Good c ar w ro ρ){id:Nat}{cs:List V}(hl:ar[id]?=some (.live cs)){i:Nat}{x:V}(hx:cs[i]?=some x): ∃u,Rd w ro ρ u x:=by
 rcases g.row id _ hl with⟨y,hy,bA⟩|⟨hc,-⟩
 ·obtain⟨u,-,hr⟩:=bA.pR i x hx
  exact⟨u,hr⟩
 ·subst hc;simp at hx
theorem VY{u:Value}{f:Fn}{cs:List V}(h:Rd w ro ρ u (.fn f cs)): ∃us:List Value,bh w ro ρ us cs:=by
 cases h with
 |fn h0 h1 h2=>exact⟨_,by rw[Array.length_toList];exact h1,fun i u x hu hx=>h2 i u x (by simpa using hu) hx⟩
theorem View.agree(ha:kP rows ar)(g:Good c ar w ro ρ){x y:V}(h:View rows x y): ∀{u:Value},Rd w ro ρ u x→View ar x y:=by
 induction h with
 |pure hp=>exact fun _=>.pure hp
 |aa=>exact fun _=>.aa
 |av h1 h2 h3 _ ih=>
  intro u hu
  have hl:=ha.av g hu h1
  refine .av hl h2 h3 fun i x y hx hy=>?_
  obtain⟨u',KK⟩:=g.Sp hl hx
  exact ih i x y hx hy KK
 |ref h1 h2 h3 _ ih=>
  intro u hu
  have hl:=ha.ref g hu h1
  refine .ref hl h2 h3 fun i x y hx hy=>?_
  obtain⟨u',KK⟩:=g.Sp hl hx
  exact ih i x y hx hy KK
 |fn hl _ ih=>
  intro u hu
  obtain⟨us,fQ⟩:=VY hu
  refine .fn hl fun i x y hx hy=>?_
  obtain⟨u',-,hr⟩:=fQ.get hx
  exact ih i x y hx hy hr
 |iface _ ih=>
  intro u hu
  cases hu with
  |iface h=>exact .iface (ih h)
 |agg hl _ ih=>
  intro u hu
  obtain⟨us,rfl,fQ⟩:=qT hu
  refine .agg hl fun i x y hx hy=>?_
  obtain⟨u',-,hr⟩:=fQ.get hx
  exact ih i x y hx hy hr
 |aB hl _ ih=>
  intro u hu
  obtain⟨us,rfl,fQ⟩:=R7 hu
  refine .aB hl fun i x y hx hy=>?_
  obtain⟨u',-,hr⟩:=fQ.get hx
  exact ih i x y hx hy hr
theorem eZ.agree(ha:kP rows ar)(g:Good c ar w ro ρ): ∀{xs ys:List V} {us:List Value},eZ rows xs ys→bh w ro ρ us xs→eZ ar xs ys
 |[],[],us,_,_=>trivial
 |[],_::_,us,h,_=>h.elim
 |_::_,[],us,h,_=>h.elim
 |x::xs,y::ys,[],h,hu=>by simp[bh]at hu
 |x::xs,y::ys,u::us,h,hu=>
  ⟨h.1.agree ha g (hu.2 0 u x rfl rfl),eZ.agree ha g (us:=us) h.2 ⟨by simpa using hu.1,fun i a b ha hb=>hu.2 (i+1) a b (by simpa using ha) (by simpa using hb)⟩⟩
theorem oH{sz:Nat}{x:V}{k:Nat→List V→Prop}(h:gT sz x rows k): ∃n cs,k n cs∧(∀k2:Nat→List V→Prop,k2 n cs→gT sz x rows k2)∧
  (∀(c:Ctx) (ar:List Row) (w:World) (ro:Nat→Prop) (ρ:bP) (u:Value),kP rows ar→Good c ar w ro ρ→Rd w ro ρ u x→ ∀k2:Nat→List V→Prop,k2 n cs→gT sz x ar k2):=by
 cases x with
 |aj=>exact⟨_,_,h,fun k2 h=>h,fun _ _ _ _ _ _ _ _ _ k2 h=>h⟩
 |sl n cs=>exact⟨_,_,h.2,fun k2 h'=>⟨h.1,h'⟩,fun _ _ _ _ _ _ _ _ _ k2 h'=>⟨h.1,h'⟩⟩
 |av id off n cG=>
  obtain⟨h1,cs,h2,h3,h4⟩:=h
  exact⟨_,_,h4,fun k2 h'=>⟨h1,cs,h2,h3,h'⟩,fun _ _ _ _ _ _ ha g hu k2 h'=>⟨h1,cs,ha.av g hu h2,h3,h'⟩⟩
 |str s=>exact⟨_,_,h.2,fun k2 h'=>⟨h.1,h'⟩,fun _ _ _ _ _ _ _ _ _ k2 h'=>⟨h.1,h'⟩⟩
 |val v=>exact⟨_,_,h.2,fun k2 h'=>⟨h.1,h'⟩,fun _ _ _ _ _ _ _ _ _ k2 h'=>⟨h.1,h'⟩⟩
 |_=>exact False.elim h
end
def dM(rows:List Row)(id:Nat):Option (List V)→List Row
 |none=>rows
 |some cs=>da rows id (.live cs)
def dA:Op→Nat
 |.move _|.assign _|.pick _ _ _|.build _ _|.nilCheck _|.binOp _ _ _ _ _|.unOp _ _ _|.makeFunc _ _ _|.makeInterface _ _|.fieldAddr _ _ _|.field _ _ _|.indexAddr _ _ _|.index _ _ _|.extract _ _=>0
 |.alloc _|.box _ _|.buildSlice _ _ _|.makeSlice _ _ _=>1
 |.load _ _|.slice _ _ _ _ _|.convert _ _ _=>2
 |.call c=>(match c.callee with
  |.builtin .len|.builtin .min|.builtin .max=>0
  |.value _=>2
  |_=>3)
 |_=>3
def cJ(P:Program):Op→Bool
 |.alloc _|.box _ _|.buildSlice _ _ _|.makeSlice _ _ _=>true
 |.convert _ d _=>(bt P d).isSome
 |.call c=>(match c.callee with
  |.builtin .append=>true
  |_=>false)
 |_=>false
theorem GH{op:Op}{id:Nat}{s:List V}{rows:List Row}{k:KV}(hk:dA op=0)(h:bF P true op id s rows k):
  ∃v,k v rows∧ ∀mN ar (k2:KV),k2 v ar→bF P true op mN s ar k2:=by
 cases op<;>simp only[dA]at hk<;>(try(exact absurd hk (by decide)))<;>simp only[bF]at h⊢
 case move x=>exact⟨_,h,fun _ _ k2 h=>h⟩
 case assign x=>exact⟨_,h,fun _ _ k2 h=>h⟩
 case pick q x y=>
  cases hq:ax s q with
  |bool t=>
   rw[hq]at h
   simp only at h
   cases t with
   |true=>exact⟨_,by simpa using h,fun _ _ k2 h=>by simpa using h⟩
   |false=>exact⟨_,by simpa using h,fun _ _ k2 h=>by simpa using h⟩
  |_=>rw[hq]at h;exact h.elim
 case build t parts=>
  obtain⟨z,h1,h2,h3⟩:=h
  obtain⟨ds,h4,h5⟩:=rS h3
  exact⟨_,h4,fun _ _ k2 h=>⟨z,h1,h2,h5 _ h⟩⟩
 case nilCheck x=>
  cases hx:ax s x with
  |ref id off=>rw[hx]at h;exact⟨_,h,fun _ _ k2 h=>h⟩
  |aL cs=>rw[hx]at h;exact⟨_,h,fun _ _ k2 h=>h⟩
  |fn f cap=>
   rw[hx]at h
   cases f with
   |func f=>exact⟨_,h,fun _ _ k2 h=>h⟩
   |_=>exact h.elim
  |kt ps as bo cap=>rw[hx]at h;exact⟨_,h,fun _ _ k2 h=>h⟩
  |_=>rw[hx]at h;exact h.elim
 case binOp op xt x y yt=>obtain⟨v,h1,h2⟩:=Sn h;exact⟨v,h1,fun _ ar k2 h=>h2 (fun v=>k2 v ar) h⟩
 case unOp op t x=>obtain⟨v,h1,h2⟩:=UR h;exact⟨v,h1,fun _ ar k2 h=>h2 (fun v=>k2 v ar) h⟩
 case makeFunc fn first cap=>exact⟨_,h.2,fun _ _ k2 h'=>⟨h.1,h'⟩⟩
 case makeInterface t x=>exact⟨_,h.2,fun _ _ k2 h'=>⟨h.1,h'⟩⟩
 case fieldAddr t x f=>
  obtain⟨ft,o,n,h1,h2,h3⟩:=h
  cases hx:ax s x with
  |ref id off=>rw[hx]at h3;exact⟨_,h3,fun _ _ k2 h=>⟨ft,o,n,h1,h2,h⟩⟩
  |aL cs=>rw[hx]at h3;exact⟨_,h3,fun _ _ k2 h=>⟨ft,o,n,h1,h2,h⟩⟩
  |_=>rw[hx]at h3;exact False.elim h3
 case field t x f=>obtain⟨v,h1,h2⟩:=Mm h;exact⟨v,h1,fun _ ar k2 h=>h2 (fun v=>k2 v ar) h⟩
 case indexAddr t x i=>
  generalize ax s i=ix at h
  generalize ax s x=x at h
  cases ix with
  |int kd n=>
   cases x with
   |sl m cs=>obtain⟨e,sz,h1,h2,h3,h4,h5⟩:=h;exact⟨_,h5,fun _ _ k2 h=>⟨e,sz,h1,h2,h3,h4,h⟩⟩
   |av id off m sz=>obtain⟨e,h1,h2,h3,h4,h5⟩:=h;exact⟨_,h5,fun _ _ k2 h=>⟨e,h1,h2,h3,h4,h⟩⟩
   |ref id off=>obtain⟨m,e,sz,h1,h2,h3,h4,h5⟩:=h;exact⟨_,h5,fun _ _ k2 h=>⟨m,e,sz,h1,h2,h3,h4,h⟩⟩
   |aL cs=>obtain⟨m,e,sz,h1,h2,h3,h4,h5⟩:=h;exact⟨_,h5,fun _ _ k2 h=>⟨m,e,sz,h1,h2,h3,h4,h⟩⟩
   |_=>exact False.elim h
  |_=>exact False.elim h
 case index t x i=>obtain⟨v,h1,h2⟩:=Mn h;exact⟨v,h1,fun _ ar k2 h=>h2 (fun v=>k2 v ar) h⟩
 case extract t i=>
  cases ht:ax s t with
  |aB vs=>rw[ht]at h;obtain⟨v,h1,h2⟩:=h;exact⟨v,h2,fun _ _ k2 h=>⟨v,h1,h⟩⟩
  |_=>rw[ht]at h;exact h.elim
 case call q=>
  obtain⟨callee,args,ts⟩:=q
  cases callee with
  |builtin b=>
   cases b<;>simp only at hk<;>(try(exact absurd hk (by decide)))<;>simp only at h⊢
   case len=>
    generalize args.toList.map (ax s)=xs at h
    match xs,h with
    |[x],h=>
     obtain⟨t,h1,h2⟩:=h
     obtain⟨v,h3,h4⟩:=So h2
     exact⟨v,h3,fun _ ar k2 h=>⟨t,h1,h4 (fun v=>k2 v ar) h⟩⟩
    |[],h=>exact False.elim h
    |_::_::_,h=>exact False.elim h
   case max=>obtain⟨v,h1,h2⟩:=Ah (show js true (args.toList.map (ax s)) (fun v=>k v rows)from h);exact⟨v,h1,fun _ ar k2 h=>h2 (fun v=>k2 v ar) h⟩
   case min=>obtain⟨v,h1,h2⟩:=Ah (show js false (args.toList.map (ax s)) (fun v=>k v rows)from h);exact⟨v,h1,fun _ ar k2 h=>h2 (fun v=>k2 v ar) h⟩
  |_=>simp at hk
end
end Go.VS
set_option linter.all false
namespace Go.VS
section
variable {P : Program}
theorem uL{op:Op}{id:Nat}{s:List V}{rows:List Row}{k:KV}(hk:dA op≠3)(h:bF P true op id s rows k):
  ∃v e,k v (dM rows id e)∧(e≠none→dB rows id∧cJ P op=true)∧(∀k2:KV,k2 v (dM rows id e)→bF P true op id s rows k2)∧
   (∀(c:Ctx) (ar:List Row) (w:World) (ro:Nat→Prop) (ρ:bP),kP rows ar→(e≠none→dB ar id)→Good c ar w ro ρ→(∀x∈op.operands,∃u,Rd w ro ρ u (ax s x))→ ∀k2:KV,k2 v (dM ar id e)→bF P true op id s ar k2):=by
 by_cases h0:dA op=0
 ·obtain⟨v,h1,h2⟩:=GH h0 h
  exact⟨v,none,h1,fun h=>absurd rfl h,fun k2 h=>h2 id rows k2 h,fun _ ar _ _ _ _ _ _ _ k2 h=>h2 id ar k2 h⟩
 cases op<;>simp only[dA]at hk h0<;>(try(exact absurd rfl hk))<;>(try(exact absurd trivial h0))<;>simp only[bF]at h⊢
 case alloc e=>
  obtain⟨z,h1,h2,h3⟩:=h
  exact⟨_,some z,h3,fun _=>⟨h2,rfl⟩,fun k2 h=>⟨z,h1,h2,h⟩,fun _ ar _ _ _ _ hf _ _ k2 h=>⟨z,h1,hf (by simp),h⟩⟩
 case box e v=>
  obtain⟨vs,h1,h2,h3⟩:=h
  exact⟨_,some vs,h3,fun _=>⟨h2,rfl⟩,fun k2 h=>⟨vs,h1,h2,h⟩,fun _ ar _ _ _ _ hf _ _ k2 h=>⟨vs,h1,hf (by simp),h⟩⟩
 case buildSlice t n parts=>
  obtain⟨e,sz,z,h1,h2,h3,h4,h5,h6,h7⟩:=h
  obtain⟨ds,h8,h9⟩:=rS h7
  exact⟨_,some ds,h8,fun _=>⟨h6,rfl⟩,fun k2 h=>⟨e,sz,z,h1,h2,h3,h4,h5,h6,h9 _ h⟩,fun _ ar _ _ _ _ hf _ _ k2 h=>⟨e,sz,z,h1,h2,h3,h4,h5,hf (by simp),h9 _ h⟩⟩
 case makeSlice t l q=>
  generalize ax s l=vl at h
  generalize ax s q=vq at h
  cases vl with
  |int k1 l=>
   cases vq with
   |int k2 q=>
    obtain⟨e,sz,db,z,h1,h2,h3,h4,h5,h6,h7,h8,h9,Vt,ZK⟩:=h
    exact⟨_,some _,ZK,fun _=>⟨Vt,rfl⟩,fun k2 h=>⟨e,sz,db,z,h1,h2,h3,h4,h5,h6,h7,h8,h9,Vt,h⟩,fun _ ar _ _ _ _ hf _ _ k2 h=>⟨e,sz,db,z,h1,h2,h3,h4,h5,h6,h7,h8,h9,hf (by simp),h⟩⟩
   |_=>exact False.elim h
  |_=>exact False.elim h
 case load t a=>
  cases ha:ax s a with
  |ref i off=>
   rw[ha]at h
   obtain⟨cs,h1,h2,h3⟩:=h
   obtain⟨v,h4,h5⟩:=vn h3
   refine⟨v,none,h4,fun h=>absurd rfl h,fun k2 h=>⟨cs,h1,h2,h5 _ h⟩,fun c ar w ro ρ zm _ g hr k2 h=>?_⟩
   obtain⟨u,hu⟩:=hr a (by simp[Op.operands])
   rw[ha]at hu
   exact⟨cs,zm.ref g hu h1,h2,h5 _ h⟩
  |aL cs=>
   rw[ha]at h
   obtain⟨v,h4,h5⟩:=vn (show gr P t cs 0 (fun v=>k v rows)from h)
   exact⟨v,none,h4,fun h=>absurd rfl h,fun k2 h=>h5 (fun v=>k2 v rows) h,fun _ ar _ _ _ _ _ _ _ k2 h=>h5 (fun v=>k2 v ar) h⟩
  |_=>rw[ha]at h;exact False.elim h
 case convert sr d x=>
  cases hx:ax s x with
  |int kd n=>
   rw[hx]at h
   obtain⟨cH,h1,h2,h3⟩:=h
   exact⟨_,none,h3,fun h=>absurd rfl h,fun k2 h=>⟨cH,h1,h2,h⟩,fun _ ar _ _ _ _ _ _ _ k2 h=>⟨cH,h1,h2,h⟩⟩
  |str l=>
   rw[hx]at h
   obtain⟨h1,h2⟩:=h
   split at h2
   ·rename_i hd
    exact⟨_,none,h2,fun h=>absurd rfl h,fun k2 h=>⟨h1,by rw[if_pos hd];exact h⟩,fun _ ar _ _ _ _ _ _ _ k2 h=>⟨h1,by rw[if_pos hd];exact h⟩⟩
   ·rename_i hd
    obtain⟨e,h3,h4,h5,h6⟩:=h2
    exact⟨_,some _,h6,fun _=>⟨h5,by simp[cJ,h3]⟩,fun k2 h=>⟨h1,by rw[if_neg hd];exact⟨e,h3,h4,h5,h⟩⟩,fun _ ar _ _ _ _ hf _ _ k2 h=>⟨h1,by rw[if_neg hd];exact⟨e,h3,h4,hf (by simp),h⟩⟩⟩
  |_=>
   all_goals
    rw[hx]at h
    obtain⟨h1,h2,h3⟩:=h
    obtain⟨n,cs,⟨h4,h5⟩,h6,h7⟩:=oH h3
    exact⟨_,none,h5,fun h=>absurd rfl h,fun k2 h=>⟨h1,h2,h6 _ ⟨h4,h⟩⟩,fun c ar w ro ρ zm _ g hr k2 h=>by
     obtain⟨u,hu⟩:=hr x (by simp[Op.operands])
     rw[hx]at hu
     obtain⟨n',iy,⟨Ef,h5'⟩,oF,h7'⟩:=oH (h6 (fun a b=>(∀c∈b,c.isByte=true)∧b=cs) ⟨h4,rfl⟩)
     subst h5'
     exact⟨h1,h2,h7' c ar w ro ρ u zm g hu _ ⟨Ef,h⟩⟩⟩
 case slice t x lo hi mx=>
  obtain⟨hm,h⟩:=h
  cases hx:ax s x with
  |str l=>
   rw[hx]at h
   obtain⟨h1,h2⟩:=h
   obtain⟨a,b,h3,h4⟩:=gI h2
   exact⟨_,none,h3,fun h=>absurd rfl h,fun k2 h=>⟨hm,h1,h4 (fun a b=>k2 (.str ((l.drop a).take (b-a))) rows) h⟩,fun _ ar _ _ _ _ _ _ _ k2 h=>⟨hm,h1,h4 (fun a b=>k2 (.str ((l.drop a).take (b-a))) ar) h⟩⟩
  |aj=>
   rw[hx]at h
   obtain⟨h1,h2⟩:=h
   obtain⟨a,b,h3,h4⟩:=gI h2
   exact⟨_,none,h3,fun h=>absurd rfl h,fun k2 h=>⟨hm,h1,h4 (fun a b=>k2 .aj rows) h⟩,fun _ ar _ _ _ _ _ _ _ k2 h=>⟨hm,h1,h4 (fun a b=>k2 .aj ar) h⟩⟩
  |sl n cs=>
   rw[hx]at h
   obtain⟨e,sz,h1,h2,h3⟩:=h
   obtain⟨a,b,h4,h5⟩:=gI h3
   exact⟨_,none,h4,fun h=>absurd rfl h,fun k2 h=>⟨hm,e,sz,h1,h2,h5 (fun a b=>k2 (.sl (b-a) ((cs.drop (a*sz)).take ((b-a)*sz))) rows) h⟩,
    fun _ ar _ _ _ _ _ _ _ k2 h=>⟨hm,e,sz,h1,h2,h5 (fun a b=>k2 (.sl (b-a) ((cs.drop (a*sz)).take ((b-a)*sz))) ar) h⟩⟩
  |av i off n sz=>
   rw[hx]at h
   obtain⟨e,h1,h2,h3⟩:=h
   obtain⟨a,b,h4,h5⟩:=gI h3
   exact⟨_,none,h4,fun h=>absurd rfl h,fun k2 h=>⟨hm,e,h1,h2,h5 (fun a b=>k2 (.av i (off+a*sz) (b-a) sz) rows) h⟩,
    fun _ ar _ _ _ _ _ _ _ k2 h=>⟨hm,e,h1,h2,h5 (fun a b=>k2 (.av i (off+a*sz) (b-a) sz) ar) h⟩⟩
  |ref i off=>
   rw[hx]at h
   obtain⟨n,e,sz,cs,h1,h2,h3,h4,h5,h6⟩:=h
   obtain⟨a,b,h7,h8⟩:=gI h6
   refine⟨_,none,h7,fun h=>absurd rfl h,fun k2 h=>⟨hm,n,e,sz,cs,h1,h2,h3,h4,h5,h8 (fun a b=>k2 (.av i (off+a*sz) (b-a) sz) rows) h⟩,fun c ar w ro ρ zm _ g hr k2 h=>?_⟩
   obtain⟨u,hu⟩:=hr x (by simp[Op.operands])
   rw[hx]at hu
   exact⟨hm,n,e,sz,cs,h1,h2,zm.ref g hu h3,h4,h5,h8 (fun a b=>k2 (.av i (off+a*sz) (b-a) sz) ar) h⟩
  |_=>rw[hx]at h;exact False.elim h
 case call q=>
  obtain⟨callee,args,ts⟩:=q
  cases callee with
  |builtin b=>cases b<;>simp at hk h0
  |invoke r m=>simp at hk
  |value f=>
   simp only at h⊢
   cases hf:ax s f with
   |fn fn cap=>
    rw[hf]at h
    cases fn with
    |func f'=>
     rcases h with h|⟨h,-⟩
     ·rcases h with⟨fZ,r,h1,h2,h3,h4⟩|⟨r,h1,h2,h3⟩
      ·refine⟨r,none,h4,fun h=>absurd rfl h,fun k2 h=>.inl (.inl ⟨fZ,r,h1,h2,h3,h⟩),fun c ar w ro ρ zm _ g hr k2 h=>.inl (.inl ⟨fZ,r,?_,h2,h3,h⟩)⟩
       have hex: ∀xs:List Operand,(∀x∈xs,∃u,Rd w ro ρ u (ax s x))→ ∃us,bh w ro ρ us (xs.map (ax s)):=by
        intro xs
        induction xs with
        |nil=>intro _;exact⟨[],rfl,fun i u x h=>by simp at h⟩
        |cons x xs ih=>
         intro hx
         obtain⟨u,hu⟩:=hx x (by simp)
         obtain⟨us,fQ⟩:=ih fun y hy=>hx y (by simp[hy])
         refine⟨u::us,by simp[fQ.1],fun i a b ha hb=>?_⟩
         cases i with
         |zero=>simp at ha hb;subst ha;subst hb;exact hu
         |succ i=>exact fQ.2 i a b (by simpa using ha) (by simpa using hb)
       obtain⟨us,fQ⟩:=hex args.toList fun x hx=>hr x (by simp[Op.operands,Call.operands];exact .inr (by simpa using hx))
       obtain⟨uf,huf⟩:=hr f (by simp[Op.operands,Call.operands])
       rw[hf]at huf
       obtain⟨uc,huc⟩:=VY huf
       exact h1.agree zm g (fQ.append huc)
      ·exact⟨r,none,h3,fun h=>absurd rfl h,fun k2 h=>.inl (.inr ⟨r,h1,h2,h⟩),fun _ ar _ _ _ _ _ _ _ k2 h=>.inl (.inr ⟨r,h1,h2,h⟩)⟩
     ·cases h
    |_=>exact False.elim h
   |kt ps as bo cap=>rw[hf]at h;exact absurd h.1 (by simp)
   |_=>rw[hf]at h;exact False.elim h
theorem GG{op:Op}{id:Nat}{s:List V}{rows:List Row}{k:KV}(h:bF P true op id s rows k): ∃v ad,k v ad∧ ∀k2:KV,k2 v ad→bF P true op id s rows k2:=by
 by_cases hk:dA op=3
 ·cases op<;>simp only[dA]at hk<;>(try(exact absurd hk (by decide)))<;>simp only[bF]at h⊢ <;>(try(exact h.elim))
  case store t a v=>
   cases ha:ax s a with
   |ref i off=>
    rw[ha]at h
    obtain⟨cs,vs,n,h1,h2,h3,h4,h5,h6,h7,h8⟩:=h
    exact⟨_,_,h8,fun k2 h=>⟨cs,vs,n,h1,h2,h3,h4,h5,h6,h7,h⟩⟩
   |_=>rw[ha]at h;exact False.elim h
  case call q=>
   obtain⟨callee,args,ts⟩:=q
   cases callee with
   |value f=>simp at hk
   |invoke r m=>exact h.elim
   |builtin b=>
    simp only at h⊢
    generalize args.toList.map (ax s)=xs at h
    cases b<;>simp only at hk<;>(try(exact absurd hk (by decide)))
    case append=>
     match xs,h with
     |[sv,x],h=>
      obtain⟨t,t',h1,h2,h3,e,sz,db,z,q1,q2,q3,q4,q5,h⟩:=h
      obtain⟨m,new,⟨p1,p2⟩,p3,-⟩:=oH h
      cases sv with
      |aj=>
       obtain⟨r1,r2,r3,r4⟩:=p2
       exact⟨_,_,r4,fun k2 h=>⟨t,t',h1,h2,h3,e,sz,db,z,q1,q2,q3,q4,q5,p3 _ ⟨p1,r1,r2,r3,h⟩⟩⟩
      |av i off n cG=>
       obtain⟨r1,r2,r3,r4,cs,r5,r6,r7⟩:=p2
       exact⟨_,_,r7,fun k2 h=>⟨t,t',h1,h2,h3,e,sz,db,z,q1,q2,q3,q4,q5,p3 _ ⟨p1,r1,r2,r3,r4,cs,r5,r6,h⟩⟩⟩
      |_=>exact False.elim p2
     |[],h=>exact False.elim h
     |[_],h=>exact False.elim h
     |_::_::_::_,h=>exact False.elim h
    case copy=>
     match xs,h with
     |[d,x],h=>
      obtain⟨t,h1,h⟩:=h
      cases d with
      |av i off n sz=>
       obtain⟨e,cs,q1,q2,q3,q4,q5,h⟩:=h
       obtain⟨m,new,⟨p1,p2,p3⟩,p4,-⟩:=oH h
       exact⟨_,_,p3,fun k2 h=>⟨t,h1,e,cs,q1,q2,q3,q4,q5,p4 _ ⟨p1,p2,h⟩⟩⟩
      |_=>exact False.elim h
     |[],h=>exact False.elim h
     |[_],h=>exact False.elim h
     |_::_::_::_,h=>exact False.elim h
    all_goals exact False.elim h
 ·obtain⟨v,e,h1,-,h2,-⟩:=uL hk h
  exact⟨v,_,h1,h2⟩
theorem CW{α:Type}{l:List α}{id:Nat}{x:α}(h:id<l.length):(da l id x).length=l.length:=by
 rw[iE,if_neg (by omega)]
theorem T5{op:Op}{id:Nat}{s:List V}{rows:List Row}{k:KV}(hid:cJ P op=true→id<rows.length)(h:bF P true op id s rows k):bF P true op id s rows fun v r=>k v r∧r.length=rows.length:=by
 by_cases hk:dA op=3
 ·cases op<;>simp only[dA]at hk<;>(try(exact absurd hk (by decide)))<;>simp only[bF]at h⊢ <;>(try(exact h.elim))
  case store t a v=>
   cases ha:ax s a with
   |ref i off=>
    rw[ha]at h
    obtain⟨cs,vs,n,h1,h2,h3,h4,h5,h6,h7,h8⟩:=h
    exact⟨cs,vs,n,h1,h2,h3,h4,h5,h6,h7,h8,by simp⟩
   |_=>rw[ha]at h;exact False.elim h
  case call q=>
   obtain⟨callee,args,ts⟩:=q
   cases callee with
   |value f=>simp at hk
   |invoke r m=>exact h.elim
   |builtin b=>
    simp only at h⊢
    generalize args.toList.map (ax s)=xs at h
    cases b<;>simp only at hk<;>(try(exact absurd hk (by decide)))
    case append=>
     have aO:=hid rfl
     match xs,h with
     |[sv,x],h=>
      obtain⟨t,t',h1,h2,h3,e,sz,db,z,q1,q2,q3,q4,q5,h⟩:=h
      obtain⟨m,new,⟨p1,p2⟩,p3,-⟩:=oH h
      refine⟨t,t',h1,h2,h3,e,sz,db,z,q1,q2,q3,q4,q5,p3 _ ⟨p1,?_⟩⟩
      cases sv with
      |aj=>
       obtain⟨r1,r2,r3,r4⟩:=p2
       exact⟨r1,r2,r3,r4,CW aO⟩
      |av i off n cG=>
       obtain⟨r1,r2,r3,r4,cs,r5,r6,r7⟩:=p2
       exact⟨r1,r2,r3,r4,cs,r5,r6,r7,by rw[CW (by simpa using aO)];simp⟩
      |_=>exact False.elim p2
     |[],h=>exact False.elim h
     |[_],h=>exact False.elim h
     |_::_::_::_,h=>exact False.elim h
    case copy=>
     match xs,h with
     |[d,x],h=>
      obtain⟨t,h1,h⟩:=h
      cases d with
      |av i off n sz=>
       obtain⟨e,cs,q1,q2,q3,q4,q5,h⟩:=h
       obtain⟨m,new,⟨p1,p2,p3⟩,p4,-⟩:=oH h
       exact⟨t,h1,e,cs,q1,q2,q3,q4,q5,p4 _ ⟨p1,p2,p3,by simp⟩⟩
      |_=>exact False.elim h
     |[],h=>exact False.elim h
     |[_],h=>exact False.elim h
     |_::_::_::_,h=>exact False.elim h
    all_goals exact False.elim h
 ·obtain⟨v,e,h1,f1,h2,-⟩:=uL hk h
  refine h2 _ ⟨h1,?_⟩
  cases e with
  |none=>rfl
  |some cs=>exact CW (hid (f1 (by simp)).2)
theorem vG{place:Nat→Option (Nat×Nat)}{f g:Operand→V}: ∀{parts:List (Nat×Operand)} {cs:List V} {k:List V→Prop},(∀p∈parts,f p.2=g p.2)→nQ place f parts cs k→nQ place g parts cs k
 |[],_,_,_,h=>h
 |(i,x)::r,cs,k,hp,h=>by
  obtain⟨off,sz,vs,h1,h2,h3,h4,h5⟩:=h
  exact⟨off,sz,vs,h1,by rw[←hp (i,x) (by simp)];exact h2,h3,h4,vG (fun p sI=>hp p (by simp[sI])) h5⟩
theorem mB{op:Op}{id:Nat}{s s2:List V}{rows:List Row}{k:KV}{draw:Bool}(ho: ∀x∈op.operands,ax s x=ax s2 x)(h:bF P draw op id s rows k):bF P draw op id s2 rows k:=by
 have JB: ∀xs:List Operand,(∀x∈xs,ax s x=ax s2 x)→xs.map (ax s)=xs.map (ax s2):=fun xs hx=>arI hx
 cases op<;>simp only[bF]at h⊢ <;>simp only[Op.operands]at ho<;>(try(exact h))
 case move x=>rw[←ho x (by simp)];exact h
 case assign x=>rw[←ho x (by simp)];exact h
 case pick q a b=>rw[←ho q (by simp),←ho a (by simp),←ho b (by simp)];exact h
 case box t v=>rw[←ho v (by simp)];exact h
 case build t parts=>
  obtain⟨z,h1,h2,h3⟩:=h
  exact⟨z,h1,h2,vG (fun p hp=>ho p.2 (by simp;exact⟨p.1,by simpa using hp⟩)) h3⟩
 case buildSlice t n parts=>
  obtain⟨e,sz,z,h1,h2,h3,h4,h5,h6,h7⟩:=h
  exact⟨e,sz,z,h1,h2,h3,h4,h5,h6,vG (fun p hp=>ho p.2 (by simp;exact⟨p.1,by simpa using hp⟩)) h7⟩
 case load t a=>rw[←ho a (by simp)];exact h
 case store t a v=>rw[←ho a (by simp),←ho v (by simp)];exact h
 case nilCheck x=>rw[←ho x (by simp)];exact h
 case binOp op xt x y yt=>rw[←ho x (by simp),←ho y (by simp)];exact h
 case unOp op t x=>rw[←ho x (by simp)];exact h
 case convert a b x=>rw[←ho x (by simp)];exact h
 case makeFunc fn first cap=>
  obtain⟨h1,h2⟩:=h
  exact⟨h1,by rw[←JB cap.toList fun x hx=>ho x (by simp;exact .inr (by simpa using hx))];exact h2⟩
 case makeInterface t x=>rw[←ho x (by simp)];exact h
 case makeSlice t l q=>rw[←ho l (by simp),←ho q (by simp)];exact h
 case slice t x lo hi mx=>
  have e0:=ho x (by simp)
  have e1:lo.map (ax s)=lo.map (ax s2):=by cases lo<;>simp_all
  have e2:hi.map (ax s)=hi.map (ax s2):=by cases hi<;>simp_all
  have e3:mx.map (ax s)=mx.map (ax s2):=by cases mx<;>simp_all
  rw[←e0,←e1,←e2,←e3];exact h
 case fieldAddr t x f=>rw[←ho x (by simp)];exact h
 case field t x f=>rw[←ho x (by simp)];exact h
 case indexAddr t x i=>rw[←ho x (by simp),←ho i (by simp)];exact h
 case index t x i=>rw[←ho x (by simp),←ho i (by simp)];exact h
 case extract t i=>rw[←ho t (by simp)];exact h
 case call q=>
  obtain⟨callee,args,ts⟩:=q
  cases callee with
  |builtin b=>
   simp only at h⊢
   rw[←JB args.toList fun x hx=>ho x (by simp[Call.operands];simpa using hx)]
   exact h
  |value f=>
   simp only at h⊢
   rw[←JB args.toList fun x hx=>ho x (by simp[Call.operands];exact .inr (by simpa using hx)),←ho f (by simp[Call.operands])]
   exact h
  |invoke r m=>exact h.elim
end
end Go.VS
