/-
 VALUE SEMANTICS, 51: calls by contracts that tell shapes.
 Conditions: none.
-/
import Derived.Test.YtjlnoogcggdhkaaGreatDoorIb
set_option maxRecDepth 100000
set_option maxHeartbeats 32000000
set_option linter.all false
set_option linter.unusedSectionVars false
namespace Go.Ck
noncomputable section
open Go.VS
variable [eb]
variable {rd : Option Nat} {b0 : Nat}
def IV.closed:IV→Bool
 |.aH g _=>Nat.beq g 0
 |.aR _ _=>true
 |.top=>true
 |.sum i j=>i.closed&&j.closed
 |.lQ _ _ _=>false
mutual
def T.closed:T→Bool
 |.int _ i=>i.closed
 |.bool _ y n=>!notNil y&&!notNil n
 |.str l=>l.closed
 |.sl l e=>l.closed&&T.hY e
 |.aL e=>T.hY e
 |.fy _ _ _ i=>i.closed
 |.av _ l _=>l.closed
 |.agg l|.aB l|.fn _ l|.fX _ l=>T.hY l
 |.alt a b=>a.closed&&b.closed
 |_=>true
def T.hY:List T→Bool
 |[]=>true
 |t::l=>t.closed&&T.hY l
end
mutual
def T.flat:T→Bool
 |.int _ _|.bool _ _ _|.str _|.aj|.aq|.lit _|.fY _=>true
 |.alt a b=>a.flat&&b.flat
 |.agg l|.aB l=>T.Ej l
 |_=>false
def T.Ej:List T→Bool
 |[]=>true
 |t::l=>t.flat&&T.Ej l
end
theorem T.fT: ∀{l:List T} {i:Nat} {t:T},T.hY l=true→l[i]?=some t→t.closed=true
 |[],_,_,_,h=>by simp at h
 |a::l,0,t,hp,h=>by simp at h;subst h;simp only[T.hY,apP]at hp;exact hp.1
 |a::l,i+1,t,hp,h=>by simp only[T.hY,apP]at hp;exact T.fT hp.2 (by simpa using h)
theorem T.zP: ∀{l:List T} {i:Nat} {t:T},T.Ej l=true→l[i]?=some t→t.flat=true
 |[],_,_,_,h=>by simp at h
 |a::l,0,t,hp,h=>by simp at h;subst h;simp only[T.Ej,apP]at hp;exact hp.1
 |a::l,i+1,t,hp,h=>by simp only[T.Ej,apP]at hp;exact T.zP hp.2 (by simpa using h)
section
variable {P : Program} {θ : List Int} {F : List Fact} {E : SL} {R : List AR} {id : Nat} {s : List V} {rows : List Row}
theorem IV.Has.close(h0:θ[0]?=some 0){i:IV}: ∀{n:Int},i.closed=true→i.Has θ n→i.Has [0] n:=by
 induction i with
 |aH g c=>
  rintro n hc ⟨x,hx,rfl⟩
  obtain rfl:g=0:=by simpa[IV.closed]using hc
  rw[h0]at hx
  obtain rfl:=apO hx
  exact⟨0,rfl,rfl⟩
 |aR=>exact fun _ h=>h
 |top=>exact fun _ _=>trivial
 |sum i j hi hj=>
  rintro n hc ⟨a,b,h1,h2,h3⟩
  simp only[IV.closed,apP]at hc
  exact⟨a,b,hi hc.1 h1,hj hc.2 h2,h3⟩
 |lQ=>intro n hc;simp[IV.closed]at hc
theorem Has.close(h0:θ[0]?=some 0){t:T}{v:V}(h:Has θ t v):t.closed=true→Has [0] t v:=by
 induction h with
 |any=>exact fun _=>.any
 |undef=>exact fun _=>.undef
 |int p=>exact fun hc=>.int (p.close h0 hc)
 |bool p q r=>
  intro hc
  simp only[T.closed,apP]at hc
  rw[iq hc.1,iq hc.2]
  exact .bool p (fun _=>cr) (fun _=>cr)
 |str p=>exact fun hc=>.str (p.close h0 hc)
 |aj=>exact fun _=>.aj
 |aq=>exact fun _=>.aq
 |kW p q=>intro hc;simp only[T.closed,apP]at hc;exact .kW (p.close h0 hc.1) q
 |sl p q r _ ih=>intro hc;simp only[T.closed,apP]at hc;exact .sl (p.close h0 hc.1) q r fun i t v a b=>ih i t v a b (T.fT hc.2 a)
 |aL p q _ ih=>intro hc;simp only[T.closed]at hc;exact .aL p q fun i t v a b=>ih i t v a b (T.fT hc a)
 |ref=>exact fun _=>.ref
 |fy p=>exact fun hc=>.fy (p.close h0 hc)
 |av p=>exact fun hc=>.av (p.close h0 hc)
 |agg p _ ih=>intro hc;simp only[T.closed]at hc;exact .agg p fun i t v a b=>ih i t v a b (T.fT hc a)
 |aB p _ ih=>intro hc;simp only[T.closed]at hc;exact .aB p fun i t v a b=>ih i t v a b (T.fT hc a)
 |fn p _ ih=>intro hc;simp only[T.closed]at hc;exact .fn p fun i t v a b=>ih i t v a b (T.fT hc a)
 |lit=>exact fun _=>.lit
 |fX p _ ih=>intro hc;simp only[T.closed]at hc;exact .fX p fun i t v a b=>ih i t v a b (T.fT hc a)
 |tg _ ih=>intro hc;simp only[T.closed,apP]at hc;exact .tg (ih hc.1)
 |tj _ ih=>intro hc;simp only[T.closed,apP]at hc;exact .tj (ih hc.2)
 |fY h=>exact fun _=>.fY h
theorem Uj(h0:θ[0]?=some 0): ∃z,θ=[0]++z:=by
 cases θ with
 |nil=>simp at h0
 |cons a z=>simp at h0;subst h0;exact⟨z,rfl⟩
theorem Has.GQ(h0:θ[0]?=some 0){t:T}{v:V}(h:Has [0] t v):Has θ t v:=by
 obtain⟨z,rfl⟩:=Uj h0
 exact h.pre
theorem bg.GQ(h0:θ[0]?=some 0){t:List T}{v:List V}(h:bg [0] t v):bg θ t v:=⟨h.1,fun i t v a b=>(h.2 i t v a b).GQ h0⟩
theorem bg.close(h0:θ[0]?=some 0){t:List T}{v:List V}(h:bg θ t v)(hc:T.hY t=true):bg [0] t v:=⟨h.1,fun i t v a b=>(h.2 i t v a b).close h0 (T.fT hc a)⟩
theorem Has.flat{t:T}{v:V}(h:Has θ t v):t.flat=true→v.Flat:=by
 induction h with
 |int=>exact fun _=>.int
 |bool=>exact fun _=>.bool
 |str=>exact fun _=>.str
 |aj=>exact fun _=>.aj
 |aq=>exact fun _=>.aq
 |agg hl _ ih=>intro hp;simp only[T.flat]at hp;exact .agg (mw hl fun i t v h1 h2=>ih i t v h1 h2 (T.zP hp h1))
 |aB hl _ ih=>intro hp;simp only[T.flat]at hp;exact .aB (mw hl fun i t v h1 h2=>ih i t v h1 h2 (T.zP hp h1))
 |lit=>exact fun _=>.str
 |tg _ ih=>intro hp;simp only[T.flat,apP]at hp;exact ih hp.1
 |tj _ ih=>intro hp;simp only[T.flat,apP]at hp;exact ih hp.2
 |fY=>exact fun _=>.str
 |_=>intro h;simp[T.flat]at h
structure Un where
 rounds:Nat
 pre:Bool:=false
 IW:Bool:=false
 hs:List (Nat×Nat×Nat):=[]
 fg:Bool:=false
 live:Option Nat:=none
 each:Bool:=false
 head:Option (St→St):=none
 ex:Bool:=false
instance (n : Nat) : OfNat Un n := ⟨{ rounds := n % 1000, pre := Nat.ble 2000 n, IW := Nat.ble 1000 (n % 2000) }⟩
structure fu where
 f:FuncId
 args:List T
 rows:List (List T)
 res:T
 ad:List (List T)
 un:Un:=0
def DG(θ:List Int)(ts:List (List T))(vs:List (List V)):Prop:=ts.length=vs.length∧ ∀(i:Nat) t v,ts[i]?=some t→vs[i]?=some v→bg θ t v
def fu.Ok(P:Program)(e:fu):Prop:= ∀args rws,bg [0] e.args args→DG [0] e.rows rws→EG P e.f args rws fun r af1=>Has [0] e.res r∧DG [0] e.ad af1
def xq.Ok(P:Program)(L:List fu):Prop:= ∀e∈L,e.Ok P
def kJ(F:List Fact)(R:List AR):Nat→T→T→Bool
 |0,t,u=>u.pure&&fH F 6 t u
 |n+1,t,u=>(u.pure&&fH F 6 t u)||(match u with
  |.sl l' e'=>(match t with
   |.av id l sz=>notNil e'&&l.sub F l'&&Nat.beq e'.length sz&&(match R[id]? with
    |some (.arr m e)=>decide (e.length=sz)&&l.le F m&&dm (kJ F R n) e e'
    |some (.cells cl)=>l.le F (.aH 0 (cl.length/sz:Nat))&&decide (cl.length=cl.length/sz*sz)&&(pieces cl sz (cl.length/sz)).all fun p=>dm (kJ F R n) p e'
    |_=>false)
   |_=>false)
  |.aL e'=>(match t with
   |.ref id off=>notNil e'&&(match R[id]? with
    |some (.cells cl)=>zd (kJ F R n) (cl.drop off) e'
    |_=>false)
   |_=>false)
  |.agg e'=>(match t with|.agg e=>dm (kJ F R n) e e'|_=>false)
  |.aB e'=>(match t with|.aB e=>dm (kJ F R n) e e'|_=>false)
  |.alt a b=>kJ F R n t a||kJ F R n t b
  |.fX m' e'=>(match t with
   |.av id l sz=>(match M7 l,R[id]? with
    |some m,some (.cells cl)=>Nat.beq m m'&&(Nat.ble (m*sz) cl.length&&dm (kJ F R n) (cl.take (m*sz)) e')
    |_,_=>false)
   |_=>false)
  |_=>false)
theorem lh{α:Type}{p:Nat→α→Prop}: ∀(n:Nat),(∀i,i<n→ ∃x,p i x)→ ∃l:List α,l.length=n∧ ∀i x,l[i]?=some x→p i x
 |0,_=>⟨[],rfl,fun i x h=>by simp at h⟩
 |n+1,h=>by
  obtain⟨l,h1,h2⟩:=lh n fun i hi=>h i (by omega)
  obtain⟨x,hx⟩:=h n (by omega)
  refine⟨l++[x],by simp[h1],fun i y hy=>?_⟩
  rw[aqq]at hy
  split at hy
  ·exact h2 i y hy
  ·rename_i hi
   have:=(apN.1 hy).1
   simp at this
   obtain rfl:i=n:=by omega
   rw[h1]at hy
   simp at hy
   subst hy
   exact hx
theorem xO{e:List T}{p:T→T→Bool}{sz:Nat}(hs:e.length=sz): ∀(c:Nat) (l:List T),l.length=c*sz→((pieces l sz c).all fun q=>dm p q e)=true→ ∀(i:Nat) a b,l[i]?=some a→e[i%sz]?=some b→p a b=true
 |0,l,hl,_,i,a,b,h1,h2=>by have:=(apN.1 h1).1;omega
 |c+1,l,hl,hall,i,a,b,h1,h2=>by
  simp only[pieces,List.all_cons,apP]at hall
  rw[arb,Nat.one_mul]at hl
  by_cases hi:i<sz
  ·rw[aq1 hi]at h2
   exact(iJ hall.1).2 i a b (by rw[aqc,if_pos hi];exact h1) h2
  ·refine xO hs c (l.drop sz) (by simp;omega) hall.2 (i-sz) a b ?_ ?_
   ·rw[aqb,show sz+(i-sz)=i by omega];exact h1
   ·rwa[arQ (by omega)]at h2
theorem Jc(hO:Cx θ F E R s rows): ∀(n:Nat) (t u:T) (v:V),kJ F R n t u=true→Has θ t v→ ∃v',View rows v v'∧Has θ u v':=by
 have flat: ∀(t u:T) (v:V),(u.pure&&fH F 6 t u)=true→Has θ t v→ ∃v',View rows v v'∧Has θ u v':=by
  intro t u v h hv
  simp only[apP]at h
  have:=kf hO.zero hO.facts 6 t u v h.2 hv
  exact⟨v,.pure (this.pure h.1),this⟩
 intro n
 induction n with
 |zero=>intro t u v h hv;exact flat t u v h hv
 |succ n ih=>
  intro t u v h hv
  simp only[kJ]at h
  rw[aqe]at h
  rcases h with h|h
  ·exact flat t u v h hv
  have deep: ∀{e e':List T} {vs:List V},dm (kJ F R n) e e'=true→e.length=vs.length→(∀(i:Nat) t v,e[i]?=some t→vs[i]?=some v→Has θ t v)→
    ∃ws:List V,vs.length=ws.length∧(∀(i:Nat) x y,vs[i]?=some x→ws[i]?=some y→View rows x y)∧e'.length=ws.length∧ ∀(i:Nat) t v,e'[i]?=some t→ws[i]?=some v→Has θ t v:=by
   intro e e' vs h1 h2 h3
   obtain⟨a1,a2⟩:=iJ h1
   obtain⟨ws,w1,w2⟩:=lh (p:=fun i y=> ∀x t,vs[i]?=some x→e'[i]?=some t→View rows x y∧Has θ t y) vs.length fun i hi=>by
    obtain⟨x,hx⟩:=aC hi
    obtain⟨a,ha⟩:=aC (l:=e) (i:=i) (by omega)
    obtain⟨b,hb⟩:=aC (l:=e') (i:=i) (by omega)
    obtain⟨y,q1,q2⟩:=ih a b x (a2 i a b ha hb) (h3 i a x ha hx)
    exact⟨y,fun x' t' e1 e2=>by rw[hx]at e1;rw[hb]at e2;obtain rfl:=apO e1;obtain rfl:=apO e2;exact⟨q1,q2⟩⟩
   refine⟨ws,w1.symm,fun i x y hx hy=>?_,by omega,fun i t y ht hy=>?_⟩
   ·obtain⟨b,hb⟩:=aC (l:=e') (i:=i) (by have:=(apN.1 hx).1;omega)
    exact(w2 i y hy x b hx hb).1
   ·obtain⟨x,hx⟩:=aC (l:=vs) (i:=i) (by have:=(apN.1 ht).1;omega)
    exact(w2 i y hy x t hx ht).2
  split at h
  ·rename_i l' e'
   split at h
   ·rename_i jV l sz
    cases hv with
    |@av _ _ m _ p=>
    simp only[apP,aqi]at h
    obtain⟨⟨⟨c0,c1⟩,c2⟩,h⟩:=h
    have fin: ∀cs,rows[jV]?=some (.live cs)→m*sz≤cs.length→(∀(i:Nat) x b,i<m*sz→cs[i]?=some x→e'[i%sz]?=some b→ ∃y,View rows x y∧Has θ b y)→ ∃v',View rows (.av jV 0 m sz) v'∧Has θ (.sl l' e') v':=by
     intro cs hr hle hc
     obtain⟨ws,w1,w2⟩:=lh (p:=fun i y=> ∀x b,cs[i]?=some x→e'[i%sz]?=some b→View rows x y∧Has θ b y) (m*sz) fun i hi=>by
      obtain⟨x,hx⟩:=aC (l:=cs) (i:=i) (by omega)
      have cI:=jA c0
      obtain⟨b,hb⟩:=aC (l:=e') (i:=i%sz) (by rw[c2];exact arc _ (by omega))
      obtain⟨y,q1,q2⟩:=hc i x b hi hx hb
      exact⟨y,fun x' b' e1 e2=>by rw[hx]at e1;rw[hb]at e2;obtain rfl:=apO e1;obtain rfl:=apO e2;exact⟨q1,q2⟩⟩
     have cI:=jA c0
     refine⟨.sl m ws,.av hr (by omega) w1 fun i x y hx hy=>?_,.sl (IV.ny hO.zero hO.facts c1 p) (ea c0) (by rw[w1,c2]) fun i t v a b=>?_⟩
     ·rw[aq6]at hx
      obtain⟨b,hb⟩:=aC (l:=e') (i:=i%sz) (by rw[c2];exact arc _ (by omega))
      exact(w2 i y hy x b hx hb).1
     ·obtain⟨x,hx⟩:=aC (l:=cs) (i:=i) (by have:=(apN.1 b).1;omega)
      rw[c2]at a
      exact(w2 i v b x t hx a).2
    split at h
    ·rename_i mm e hR
     simp only[apP,decide_eq_true_eq]at h
     obtain⟨⟨d1,d2⟩,d3⟩:=h
     obtain⟨r,r1,r2⟩:=hO.row hR
     cases r with
     |live cs=>
      obtain⟨k1,⟨q,k2,k3⟩,k4⟩:=r2
      have g:=IV.fL hO.zero hO.facts d2 p k2
      rw[d1]at k3
      have hle:m*sz≤q*sz:=aqI _ (by omega)
      obtain⟨a1,a2⟩:=iJ d3
      refine fin cs r1 (by omega) fun i x b hi hx hb=>?_
      obtain⟨a,ha⟩:=aC (l:=e) (i:=i%sz) (by have:=(apN.1 hb).1;omega)
      exact ih a b x (a2 _ a b ha hb) (k4 i a x (by rw[d1];exact ha) hx)
     |_=>exact r2.elim
    ·rename_i cl hR
     simp only[apP,decide_eq_true_eq]at h
     obtain⟨⟨d1,d2⟩,d3⟩:=h
     obtain⟨r,r1,r2⟩:=hO.row hR
     cases r with
     |live cs=>
      have g:=IV.fL hO.zero hO.facts d1 p (n:=((cl.length/sz:Nat):Int)) ⟨0,hO.zero,by simp⟩
      have hle:m*sz≤cl.length/sz*sz:=aqI _ (by omega)
      have hl:cl.length=cs.length:=r2.1
      refine fin cs r1 (by omega) fun i x b hi hx hb=>?_
      obtain⟨a,ha⟩:=aC (l:=cl) (i:=i) (by omega)
      exact ih a b x (xO c2 _ cl d2 d3 i a b ha hb) (r2.2 i a x ha hx)
     |_=>exact r2.elim
    ·cases h
   ·cases h
  ·rename_i e'
   split at h
   ·rename_i jV off
    cases hv
    simp only[apP]at h
    obtain⟨c0,h⟩:=h
    split at h
    ·rename_i cl hR
     obtain⟨r,r1,r2⟩:=hO.row hR
     cases r with
     |live cs=>
      obtain⟨a1,a2⟩:=Fk h
      have hl:cl.length=cs.length:=r2.1
      simp only[apU]at a1
      have cI:=jA c0
      obtain⟨ws,w1,w2⟩:=lh (p:=fun i y=> ∀x b,cs[off+i]?=some x→e'[i]?=some b→View rows x y∧Has θ b y) e'.length fun i hi=>by
       obtain⟨x,hx⟩:=aC (l:=cs) (i:=off+i) (by omega)
       obtain⟨a,ha⟩:=aC (l:=cl) (i:=off+i) (by omega)
       obtain⟨b,hb⟩:=aC hi
       obtain⟨y,q1,q2⟩:=ih a b x (a2 i a b (by rw[aqb];exact ha) hb) (r2.2 _ a x ha hx)
       exact⟨y,fun x' b' e1 e2=>by rw[hx]at e1;rw[hb]at e2;obtain rfl:=apO e1;obtain rfl:=apO e2;exact⟨q1,q2⟩⟩
      refine⟨.aL ws,.ref r1 (by rintro rfl;simp only[aqh]at hl;omega) (by omega) fun i x y hx hy=>?_,.aL (ea c0) (by omega) fun i t v a b=>?_⟩
      ·obtain⟨b,hb⟩:=aC (l:=e') (i:=i) (by have:=(apN.1 hy).1;omega)
       exact(w2 i y hy x b hx hb).1
      ·obtain⟨x,hx⟩:=aC (l:=cs) (i:=off+i) (by have:=(apN.1 b).1;omega)
       exact(w2 i v b x t hx a).2
     |_=>exact r2.elim
    ·cases h
   ·cases h
  ·split at h
   ·cases hv with
    |agg q1 q2=>
     obtain⟨ws,w1,w2,w3,w4⟩:=deep h q1 q2
     exact⟨.agg ws,.agg w1 w2,.agg w3 w4⟩
   ·cases h
  ·split at h
   ·cases hv with
    |aB q1 q2=>
     obtain⟨ws,w1,w2,w3,w4⟩:=deep h q1 q2
     exact⟨.aB ws,.aB w1 w2,.aB w3 w4⟩
   ·cases h
  ·rw[aqe]at h
   rcases h with h|h
   ·obtain⟨v',a1,a2⟩:=ih _ _ _ h hv;exact⟨v',a1,.tg a2⟩
   ·obtain⟨v',a1,a2⟩:=ih _ _ _ h hv;exact⟨v',a1,.tj a2⟩
  ·rename_i m' e'
   split at h
   ·rename_i jV l sz
    split at h
    ·rename_i m cl hm hR
     simp only[apP,aqi,arS]at h
     obtain⟨rfl,c2,h⟩:=h
     cases hv with
     |@av _ _ nv _ p=>
     obtain rfl:=Jk hO.zero hm p
     obtain⟨r,r1,r2⟩:=hO.row hR
     cases r with
     |live cs=>
      have r2:bg θ cl cs:=r2
      have hl:=r2.1
      obtain⟨ws,w1,w2,w3,w4⟩:=deep (vs:=cs.take (nv*sz)) h (by simp[hl]) fun i t v a b=>by
       rw[aqc]at a b
       split at a
       ·rename_i hi
        rw[if_pos hi]at b
        exact r2.2 i t v a b
       ·cases a
      refine⟨.sl nv ws,.av r1 (by omega) (by rw[←w1,apT];omega) fun i x y hx hy=>?_,.fX w3 w4⟩
      rw[aq6]at hx
      have hi:=(apN.1 hy).1
      rw[←w1,apT]at hi
      exact w2 i x y (by rw[aqc,if_pos (by omega)];exact hx) hy
     |_=>exact r2.elim
    ·cases h
   ·cases h
  ·cases h
def aah(P:Program)(fv:V)(args:List V)(rows:List Row)(k:KV):Prop:=
 ∃f fZ Rr,fv=.fn (.func f) []∧eZ rows args fZ∧EP P f fZ Rr∧(∀r,Rr r→r.Flat)∧ ∀r,Rr r→k r rows
theorem Uk{c:Ctx}{w:World}{ro:Nat→Prop}{ρ:bP}{k:KV}{f:FuncId}{args fZ:List V}{Rr:V→Prop}{vs:Array Value}(go:iL P c)(g:VS.Good c rows w ro ρ)(ha:bh w ro ρ vs.toList args)
  (hv:eZ rows args fZ) (h:EP P f fZ Rr) (Bt: ∀r,Rr r→r.Flat) (hk: ∀r,Rr r→k r rows):Enters P f∧Calls P f vs w fun e w'=> ∃v,e=.returned v∧lU c k w ro ρ v w':=by
 obtain⟨p6,dC⟩:=h
 refine⟨p6,?_⟩
 have pf: ∀b,¬(Ctx.may ⟨w,nP ro ρ,[]⟩ b):=fun b ⟨id,x,h,_⟩=>by simp at h
 have aO: ∀b,nP ro ρ b→b<w.heap.size:=by
  rintro b (h|⟨id,x,h,rfl⟩)
  ·exact g.iN b h
  ·exact g.oP h
 refine(dC w (nP ro ρ) [] vs (VS.Good.start aO) (go.at g fun b hb=>.inl hb) (hv.pI g ha [])).mono ?_
 rintro e w' ⟨v,r',ad,aY,ρ',rfl,⟨hR,hp⟩,g',hr⟩
 obtain⟨g1,e1⟩:=g.world g'.os g'.tape g'.output g'.size fun b hb _=>g'.eW b hb (pf b)
 exact⟨v,rfl,r',rows,ro,ρ,hk _ hR,g1,hr.flat (Bt _ hR) _ _ _,e1⟩
theorem RP{c:Ctx}{w:World}{ro:Nat→Prop}{ρ:bP}(g:VS.Good c rows w ro ρ):VS.Good ⟨w,ro,ρ⟩ rows w ro ρ where
 os:=rfl
 tape:=rfl
 output:=rfl
 size:=aqf _
 eW:=fun _ _ _=>rfl
 iN:=g.iN
 gW:=fun b hb=>.inl hb
 len:=g.len
 cK:=fun id x hx=>⟨.inl ⟨id,x,hx,rfl⟩,(g.cK id x hx).2⟩
 inj:=g.inj
 row:=g.row
 ext:=Ext.refl _ _ _
theorem O8{c:Ctx}{w w':World}{ro aY:Nat→Prop}{ρ ρ':bP}{ad:List Row}(g:VS.Good c rows w ro ρ)(h:VS.Good ⟨w,ro,ρ⟩ ad w' aY ρ'):VS.Good c ad w' aY ρ':=by
 have Ul: ∀b,(Ctx.may ⟨w,ro,ρ⟩ b∨w.heap.size≤b)→c.may b∨c.w.heap.size≤b:=by
  rintro b (⟨id,x,h1,rfl⟩|h1)
  ·exact(g.cK id x h1).1
  ·exact .inr (aqD g.size h1)
 refine⟨h.os.trans g.os,h.tape.trans g.tape,h.output.trans g.output,aqD g.size h.size,fun b hb hn=>?_,h.iN,fun b hb=>?_,h.len,fun id x hx=>⟨Ul _ (h.cK id x hx).1,(h.cK id x hx).2⟩,h.inj,h.row,g.ext.trans h.ext⟩
 ·rw[h.eW b (aqJ hb g.size) (fun hm=>?_),g.eW b hb hn]
  rcases Ul b (.inl hm)with h1|h1
  ·exact hn h1
  ·omega
 ·rcases h.gW b hb with h1|h1
  ·exact g.gW b h1
  ·exact .inr (Ul b h1)
def aai(P:Program)(fv:V)(args:List V)(rows:List Row)(k:KV):Prop:= ∃f zw,fv=.fn (.func f) zw∧cO P f (args++zw) rows k
theorem Um{c:Ctx}{w:World}{ro:Nat→Prop}{ρ:bP}{k:KV}{f:FuncId}{args:List V}{vs:Array Value}(go:iL P c)(g:VS.Good c rows w ro ρ)(ha:bh w ro ρ vs.toList args)(h:cO P f args rows k):
  Enters P f∧Calls P f vs w fun e w'=> ∃v,e=.returned v∧lU c k w ro ρ v w':=by
 refine⟨h.1,(h.2 w ro ρ vs (RP g) (go.at g fun b hb=>hb) ha).mono ?_⟩
 rintro e w' ⟨v,r,ad,aY,ρ',rfl,hR,g',hr⟩
 exact⟨v,rfl,r,ad,aY,ρ',hR,O8 g g',hr,g'.ext⟩
def qt(P:Program)(op:Op)(id:Nat)(s:List V)(rows:List Row)(k:KV):Prop:=
 bF P false op id s rows k∨ ∃q f,op=.call q∧q.callee=.value f∧(aah P (ax s f) (q.args.toList.map (ax s)) rows k∨aai P (ax s f) (q.args.toList.map (ax s)) rows k)
theorem Mc{c:Ctx}{w:World}{ro:Nat→Prop}{ρ:bP}{k:KV}{o:Oper}{a:Act}(go:iL P c)(hs:eV b0 w ro ρ a s)(g:VS.Good c rows w ro ρ)(h:qt P o.op id s rows k):mT P c k w ro ρ ((execOp a.eval o).run P w):=by
 rcases h with h|⟨q,f,e1,e2,⟨f',fZ,Rr,h1,h2,h3,h4,h5⟩|⟨f',zw,h1,h2⟩⟩
 ·exact rT go hs g h
 ·obtain⟨dst,op,type,pos,after,guard⟩:=o
  simp only at e1
  subst e1
  obtain⟨callee,args,ts⟩:=q
  simp only at e2
  subst e2
  simp only[execOp]
  have hf:=hs.eval f
  rw[h1]at hf
  cases wH:a.eval f with
  |func fn fs us=>
   rw[wH]at hf
   cases hf with
   |fn g0 g1 g2=>
    subst g0
    have fQ:us=#[]:=by simpa using g1
    subst fQ
    have bX:=Uk (c:=c) (k:=k) go g (vs:=args.map a.eval++#[]) (by rw[Array.append_empty,ar2];exact sx hs args.toList) h2 h3 h4 h5
    simp only[Array.append_empty]at bX
    simp[resolve,wH,Deferred.ofValue,invoke,bX.1 _ _,mT,bX.2]
  |_=>rw[wH]at hf;cases hf
 ·obtain⟨dst,op,type,pos,after,guard⟩:=o
  simp only at e1
  subst e1
  obtain⟨callee,args,ts⟩:=q
  simp only at e2
  subst e2
  simp only[execOp]
  have hf:=hs.eval f
  rw[h1]at hf
  cases wH:a.eval f with
  |func fn fs us=>
   rw[wH]at hf
   cases hf with
   |fn g0 g1 g2=>
    subst g0
    have uQ:bh w ro ρ ((args.map a.eval++us).toList) (args.toList.map (ax s)++zw):=by
     rw[Array.toList_append,ar2]
     exact(sx hs args.toList).append ⟨by simpa using g1,fun i u x hu hx=>g2 i u x (by simpa using hu) hx⟩
    have bX:=Um (c:=c) (k:=k) go g uQ h2
    simp[resolve,wH,Deferred.ofValue,invoke,bX.1 _ _,mT,bX.2]
  |_=>rw[wH]at hf;cases hf
theorem CI{c:Ctx}{w:World}{ro:Nat→Prop}{ρ:bP}{a:Act}{o:Oper}{next:Act→World→Prop}{Q':Exit→Act→World→Prop}{k:KV}(go:iL P c)(hs:eV b0 w ro ρ a s)(g:VS.Good c rows w ro ρ)
  (h:qt P o.op id s rows k) (hn: ∀v w' r ad aY ρ',k r ad→VS.Good c ad w' aY ρ'→eV b0 w' aY ρ' (a.put o.dst v) (aD s o.dst r)→next (a.put o.dst v) w'):o.wpIn (fw rd) 0 P a w next Q':=by
 have hd:=Mc (o:=o) go hs g h
 have j4: ∀c,o.op≠.defer c:=by
  intro c e
  rw[e]at h
  rcases h with h|⟨q,f,h,-⟩
  ·exact h
  ·cases h
 have use: ∀v w',lU c k w ro ρ v w'→next (a.put o.dst v) w':=by
  rintro v w' ⟨r,ad,aY,ρ',h1,h2,h3,h4⟩
  exact hn v w' r ad aY ρ' h1 h2 ((hs.ext h4).put h3 o.dst)
 refine⟨fun _ _=>trivial,?_⟩
 rw[Oper.semAt_plain _ _ _ j4]
 generalize(execOp a.eval o).run P w=res at hd
 cases res with
 |halt x w'=>exact hd.elim
 |ok n w'=>
  cases n<;>try exact hd.elim
  case value v=>exact use v w' hd
  case skip=>exact use undef w' hd
  case enter f args=>
   refine⟨A7,Kh (Calls.mono hd ?_)⟩
   rintro e lV ⟨v,rfl,dN⟩
   exact use v lV dN
  case round l f tmps as bo=>
   refine⟨A7,Ki (RoundIn.mono hd ?_)⟩
   rintro e lV ⟨v,rfl,dN⟩
   exact use v lV dN
def zQ(P:Program)(F:List Fact)(E:SL)(R:List AR)(id:Nat)(op:Op)(t:T)(u:List (Nat×AR)):Prop:=
 ∀θ s rows (k:KV),Cx θ F E R s rows→dB rows id→(∀v ad,Has θ t v→uF θ rows ad u→k v ad)→qt P op id s rows k
theorem dx.x{op:Op}{t:T}{u:List (Nat×AR)}(h:dx P F E R id op t u):zQ P F E R id op t u:=fun θ s rows k hO hf hk=>.inl (h θ s rows k hO hf hk)
def Wx(L:List fu)(f:FuncId):Option fu:=L.find? fun e=>Nat.beq e.f f
def Ek(F:List Fact)(R:List AR)(e:fu)(ts:List T):Option T:=
 match e.rows,e.ad with
 |[],[]=>if e.res.pure&&e.res.closed&&T.hY e.args&&((T.mu e.args&&dm (fH F 8) ts e.args)||(e.res.flat&&dm (kJ F R 5) ts e.args))then some e.res else none
 |_,_=>none
theorem Kj(hO:Cx θ F E R s rows): ∀{ts us:List T} {vs:List V},dm (kJ F R 5) ts us=true→bg θ ts vs→ ∃ws,eZ rows vs ws∧bg θ us ws
 |[],[],[],_,_=>⟨[],trivial,rfl,fun i t v h=>by simp at h⟩
 |[],[],_::_,_,h=>by have:=h.1;simp at this
 |[],_::_,_,h,_=>by simp[yu]at h
 |_::_,[],_,h,_=>by simp[yw]at h
 |_::_,_::_,[],_,h=>by have:=h.1;simp at this
 |t::ts,u::us,v::vs,h,hl=>by
  simp only[GB,apP]at h
  obtain⟨w,h1,h2⟩:=Jc hO 5 t u v h.1 (hl.2 0 t v rfl rfl)
  obtain⟨ws,h3,h4⟩:=Kj hO h.2 ⟨by have:=hl.1;simpa using this,fun i a b p q=>hl.2 (i+1) a b (by simpa using p) (by simpa using q)⟩
  refine⟨w::ws,⟨h1,h3⟩,by simp[h4.1],fun i a b p q=>?_⟩
  cases i with
  |zero=>simp at p q;subst p;subst q;exact h2
  |succ i=>exact h4.2 i a b (by simpa using p) (by simpa using q)
theorem JQ(hO:Cx θ F E R s rows)(xs:List Operand):bg θ (xs.map (oT E)) (xs.map (ax s)):=
 ⟨by simp,fun i t v a b=>by
  rw[apZ]at a b
  cases hx:xs[i]? with
  |none=>rw[hx]at a;cases a
  |some x=>rw[hx]at a b;obtain rfl:=apO a;obtain rfl:=apO b;exact bJ hO x⟩
theorem Kk{e:fu}(h:e.Ok P)(h1:e.rows=[]){args:List V}(ha:bg [0] e.args args):EP P e.f args (Has [0] e.res):=by
 have:=h args [] ha (by rw[h1];exact⟨rfl,fun i t v h=>by simp at h⟩)
 exact cO.mono this fun r rs ⟨ad,h1,h2,_⟩=>⟨h1.1,h2⟩
theorem GW{L:List fu}(hL:xq.Ok P L){q:Call}{fo:Operand}{f:FuncId}{e:fu}{t:T}(hq:q.callee=.value fo)(hf:oT E fo=.fn f [])(Nr:e∈L)(Kl:e.f=f)(h:Ek F R e (q.args.toList.map (oT E))=some t):
  zQ P F E R id (.call q) t []:=fun θ s rows k hO _ hk=>by
 have zy:=bJ hO fo
 rw[hf]at zy
 have Nk:ax s fo=.fn (.func f) []:=by
  generalize ax s fo=vf at zy
  cases zy with
  |@fn _ _ vs hl _=>
   have:vs=[]:=apW (by simpa using hl.symm)
   rw[this]
 have hE:=hL e Nr
 have ha:=JQ hO q.args.toList
 unfold Ek at h
 split at h
 ·rename_i hr jU
  obtain⟨hc,rfl⟩:=aG h
  simp only[apP,aqe]at hc
  obtain⟨⟨⟨c1,c2⟩,c3⟩,c4⟩:=hc
  rcases c4 with⟨c4,c5⟩|⟨c4,c5⟩
  ·left
   obtain⟨a1,a2⟩:=Fl (p:=fH F 8) (fun a b v h hv=>kf hO.zero hO.facts 8 a b v h hv) c5 ha.1 ha.2
   have uC:bg θ e.args (q.args.toList.map (ax s)):=⟨a1,a2⟩
   have Jb:=Kk hE hr (uC.close hO.zero c3)
   simp only[bF,hq,Nk]
   rw[Kl]at Jb
   refine jI (R:=Has [0] e.res) (by simpa using Jb) (fun x hx=>?_) fun r hR _=>hk r rows (hR.GQ hO.zero) ld
   rw[aqp]at hx
   exact mw uC.1 (fun i t v p1 p2=>(uC.2 i t v p1 p2).pure (T.gR c4 p1)) x hx
  ·right
   obtain⟨ws,w1,w2⟩:=Kj hO c5 ha
   have Jb:=Kk hE hr (w2.close hO.zero c3)
   rw[Kl]at Jb
   exact⟨q,fo,rfl,hq,.inl ⟨f,ws,Has [0] e.res,Nk,w1,Jb,fun r hR=>hR.flat c4,fun r hR=>hk r rows (hR.GQ hO.zero) ld⟩⟩
 ·cases h
def pt:List T→List T→Nat→Option (List Nat)
 |[],[],_=>some []
 |t::ts,u::us,j=>(match u with
  |.ref i o=>if i=j then(match t with
   |.ref id o'=>if o'=o then(pt ts us (j+1)).map (id:: ·)else none
   |_=>none)else none
  |_=>pt ts us j)
 |_,_,_=>none
def Em(F:List Fact):List T→List T→Bool
 |[],[]=>true
 |t::ts,u::us=>(match u with
  |.ref _ _=>true
  |u=>u.pure&&u.closed&&fH F 8 t u)&&Em F ts us
 |_,_=>false
def wI(F:List Fact)(R:List AR):List Nat→List (List T)→Bool
 |[],[]=>true
 |i::m,l::ls=>T.mu l&&T.hY l&&(match R[i]? with
  |some (.cells cl)=>dm (fH F 8) cl l
  |_=>false)&&wI F R m ls
 |_,_=>false
def nodupB:List Nat→Bool
 |[]=>true
 |a::l=>!l.contains a&&nodupB l
def HZ(F:List Fact)(R:List AR)(e:fu)(ts:List T):zR:=
 match pt ts e.args 0 with
 |some m=>if nodupB m∧Em F ts e.args∧wI F R m e.rows∧e.ad.length=m.length∧e.res.pure then some (e.res,(m.zip e.ad).map fun p=>(p.1,.cells p.2))else none
 |none=>none
theorem l5: ∀{l:List Nat},nodupB l=true→l.Nodup
 |[],_=>arR
 |a::l,h=>by
  simp only[nodupB,apP,aqC,List.contains_eq_mem,decide_eq_false_iff_not]at h
  exact List.nodup_cons.2 ⟨h.1,l5 h.2⟩
theorem RQ{α:Type}{c:Prop}[Decidable c]{o:Option α}{u:α}(h:(if c then o else none)=some u):c∧o=some u:=by
 split at h
 ·rename_i hc;exact⟨hc,h⟩
 ·cases h
theorem zT(hO:Cx θ F E R s rows){M:List Nat}: ∀{ts us:List T} {j:Nat} {m:List Nat} {vs:List V},pt ts us j=some m→Em F ts us=true→bg θ ts vs→(∀k,m[k]?=M[j+k]?)→
  ∃ws,dI false (M.map some) ws vs∧bg [0] us ws
 |[],[],_,_,[],_,_,_,_=>⟨[],trivial,rfl,fun i t v h=>by simp at h⟩
 |[],[],_,_,_::_,_,_,h,_=>by have:=h.1;simp at this
 |[],_::_,_,_,_,h,_,_,_=>by simp[pt]at h
 |_::_,[],_,_,_,h,_,_,_=>by simp[pt]at h
 |_::_,_::_,_,_,[],_,_,h,_=>by have:=h.1;simp at this
 |t::ts,u::us,j,m,v::vs,h,ha,hl,hm=>by
  have lR:bg θ ts vs:=⟨by have:=hl.1;simpa using this,fun i a b p q=>hl.2 (i+1) a b (by simpa using p) (by simpa using q)⟩
  have hv:=hl.2 0 t v rfl rfl
  simp only[Em,apP]at ha
  have put: ∀{w:V} {ws:List V},Ren false (M.map some) w v→Has [0] u w→dI false (M.map some) ws vs→bg [0] us ws→ ∃ws,dI false (M.map some) ws (v::vs)∧bg [0] (u::us) ws:=by
   intro w ws h1 h2 h3 h4
   refine⟨w::ws,⟨h1,h3⟩,by simp[h4.1],fun i a b p q=>?_⟩
   cases i with
   |zero=>simp at p q;subst p;subst q;exact h2
   |succ i=>exact h4.2 i a b (by simpa using p) (by simpa using q)
  simp only[pt]at h
  split at h
  ·rename_i i o
   split at h
   ·rename_i kl
    subst kl
    split at h
    ·rename_i jV o'
     obtain⟨ho,h7⟩:=RQ h
     clear h
     subst ho
     obtain⟨m',h1,rfl⟩: ∃m',pt ts us (i+1)=some m'∧jV::m'=m:=by
      cases hr:pt ts us (i+1)with
      |none=>rw[hr]at h7;cases h7
      |some m'=>rw[hr]at h7;exact⟨m',rfl,apO h7⟩
     obtain⟨ws,w1,w2⟩:=zT hO h1 ha.2 lR fun k=>by
      have:=hm (k+1)
      simp only[aqM]at this
      rw[this]
      congr 1
      omega
     cases hv
     have hmi:=hm 0
     simp only[aqY,Nat.add_zero]at hmi
     exact put (.ref (by rw[apZ,←hmi];rfl)) .ref w1 w2
    ·cases h
   ·cases h
  ·rename_i hnr
   obtain⟨ws,w1,w2⟩:=zT hO h ha.2 lR hm
   have hu:u.pure=true∧u.closed=true∧fH F 8 t u=true:=by
    have:=ha.1
    split at this
    ·exact absurd rfl (hnr _ _)
    ·simp only[apP]at this;exact⟨this.1.1,this.1.2,this.2⟩
   have hh:=kf hO.zero hO.facts 8 t u v hu.2.2 hv
   exact put (.pure (hh.pure hu.1)) (hh.close hO.zero hu.2.1) w1 w2
theorem GX(hO:Cx θ F E R s rows){M:List (Option Nat)}: ∀{m:List Nat} {ls:List (List T)},wI F R m ls=true→ ∃rws,m.length=rws.length∧ae M rows (m.map some) (cQ rws)∧DG [0] ls rws
 |[],[],_=>⟨[],rfl,trivial,rfl,fun i t v h=>by simp at h⟩
 |[],_::_,h=>by simp[wI]at h
 |_::_,[],h=>by simp[wI]at h
 |i::m,l::ls,h=>by
  simp only[wI,apP]at h
  obtain⟨⟨⟨c1,c2⟩,c3⟩,c4⟩:=h
  obtain⟨rws,q0,q1,q2⟩:=GX hO (M:=M) c4
  split at c3
  ·rename_i cl hR
   obtain⟨r,r1,r2⟩:=hO.row hR
   cases r with
   |live cs=>
    obtain⟨a1,a2⟩:=Fl (p:=fH F 8) (fun a b v h hv=>kf hO.zero hO.facts 8 a b v h hv) c3 r2.1 r2.2
    have ha:bg θ l cs:=⟨a1,a2⟩
    refine⟨cs::rws,by simp[q0],⟨⟨.live cs,r1,gM (mw ha.1 fun i t v p1 p2=>(ha.2 i t v p1 p2).pure (T.gR c1 p1))⟩,q1⟩,by simp[q2.1],fun k t v p q=>?_⟩
    cases k with
    |zero=>simp at p q;subst p;subst q;exact ha.close hO.zero c2
    |succ k=>exact q2.2 k t v (by simpa using p) (by simpa using q)
   |_=>exact r2.elim
  ·cases c3
theorem RR{L:List fu}(hL:xq.Ok P L){q:Call}{fo:Operand}{f:FuncId}{e:fu}{t:T}{u:List (Nat×AR)}(hq:q.callee=.value fo)(hf:oT E fo=.fn f [])(Nr:e∈L)(Kl:e.f=f)(h:HZ F R e (q.args.toList.map (oT E))=some (t,u)):
  zQ P F E R id (.call q) t u:=fun θ s rows k hO _ hk=>by
 left
 have zy:=bJ hO fo
 rw[hf]at zy
 have Nk:ax s fo=.fn (.func f) []:=by
  generalize ax s fo=vf at zy
  cases zy with
  |@fn _ _ vs hl _=>
   have:vs=[]:=apW (by simpa using hl.symm)
   rw[this]
 have hE:=hL e Nr
 have ha:=JQ hO q.args.toList
 unfold HZ at h
 split at h
 ·rename_i m hm
  obtain⟨⟨c1,c2,c3,c4,c5⟩,h⟩:=aG h
  simp only[apX]at h
  obtain⟨rfl,rfl⟩:=h
  obtain⟨ws,w1,w2⟩:=zT hO (M:=m) hm c2 ha fun k=>by rw[aq6]
  obtain⟨rws,q0,q1,q2⟩:=GX hO (M:=m.map some) c3
  have heg:=hE ws rws w2 q2
  rw[Kl]at heg
  simp only[bF,hq,Nk]
  refine Cy m heg (l5 c1) q1 (by simpa using w1) q0.symm fun r ad hR hp hl vZ=>hk r _ (hR.1.GQ hO.zero) ?_
  have j4:=l5 c1
  have aO: ∀(j i:Nat),m[j]?=some i→i<rows.length:=by
   intro j i hj
   obtain⟨g1,g2,-⟩:=iP q1
   have sL:=(apN.1 hj).1
   obtain⟨r0,vR⟩:=aC (l:=cQ rws) (i:=j) (by rw[g1];simpa using sL)
   obtain⟨r2,j2,-⟩:=g2 j i r0 (by simp[hj]) vR
   exact(apN.1 j2).1
  have W2: ∀{j:Nat} {a:AR},(j,a)∈(m.zip e.ad).map (fun p=>((p.1,AR.cells p.2):Nat×AR))→ ∃(i:Nat) (l:List T),m[i]?=some j∧e.ad[i]?=some l∧a=.cells l:=by
   intro j a h
   obtain⟨p,hp,e1⟩:=aqd.1 h
   simp only[apX]at e1
   obtain⟨e1,e2⟩:=e1
   obtain⟨i,hi⟩:=aqm.1 hp
   rw[List.getElem?_zip_eq_some]at hi
   exact⟨i,p.2,by rw[hi.1,e1],hi.2,e2.symm⟩
  refine⟨fun j hj=>qy m ad rows j fun nu=>?_,fun j a hj=>?_⟩
  ·obtain⟨i,hi⟩:=aqm.1 nu
   obtain⟨l,lR⟩:=aC (l:=e.ad) (i:=i) (by rw[c4];exact(apN.1 hi).1)
   refine hj (.cells l) (aqd.2 ⟨(j,l),aqm.2 ⟨i,?_⟩,rfl⟩)
   rw[List.getElem?_zip_eq_some]
   exact⟨hi,lR⟩
  ·obtain⟨i,l,h1,h2,rfl⟩:=W2 hj
   obtain⟨x,hx⟩:=aC (l:=ad) (i:=i) (by rw[hl,←q0];exact(apN.1 h1).1)
   exact⟨.live x,rD m ad rows i j x j4 h1 hx (aO i j h1),(hR.2.2 i l x h2 hx).GQ hO.zero⟩
 ·cases h
end
end
end Go.Ck
set_option linter.unusedSectionVars false
namespace Go.Ck
noncomputable section
open Go.VS
variable [eb]
def mP(a b:List Nat):List Nat:=List.rec b (fun x _ ih=>x::ih) a
theorem FD: ∀(a b:List Nat),mP a b=a++b
 |[],b=>rfl
 |x::a,b=>by show x::mP a b=_;rw[FD a b];rfl
def takeN(l:List Nat):Nat→List Nat:=List.rec (fun _=> []) (fun x _ ih n=>match n with|0=> []|n+1=>x::ih n) l
theorem Km: ∀(l:List Nat) (n:Nat),takeN l n=l.take n
 |[],n=>by simp[takeN]
 |x::l,0=>rfl
 |x::l,n+1=>by show x::takeN l n=_;rw[Km l n];rfl
def H0(l:List Nat):Nat→List Nat:=List.rec (fun _=> []) (fun x l ih n=>match n with|0=>x::l|n+1=>ih n) l
theorem Kn: ∀(l:List Nat) (n:Nat),H0 l n=l.drop n
 |[],n=>by simp[H0]
 |x::l,0=>rfl
 |x::l,n+1=>by show H0 l n=_;rw[Kn l n];rfl
def Pc.take(n:Nat):Pc→Pc
 |.lit b=>.lit (takeN b n)
 |.sym s o m=>.sym s o (min n m)
def Pc.drop(n:Nat):Pc→Pc
 |.lit b=>.lit (H0 b n)
 |.sym s o m=>.sym s (o+n) (m-n)
theorem Pc.W3{p:Pc}{n:Nat}(h:p.Ok):(p.take n).Ok∧(p.take n).den=p.den.take n:=by
 cases p with
 |lit b=>
  simp only[Pc.take,Km]
  exact⟨fun x hx=>h x (arD hx),by simp[Pc.den,arX]⟩
 |sym s o m=>
  have h:o+m≤(eb.val s).length:=h
  refine⟨show o+min n m≤_ by omega,?_⟩
  simp only[Pc.take,Pc.den,List.take_take]
theorem Pc.W4{p:Pc}{n:Nat}(h:p.Ok)(hn:n≤p.len):(p.drop n).Ok∧(p.drop n).den=p.den.drop n:=by
 cases p with
 |lit b=>
  simp only[Pc.drop,Kn]
  exact⟨fun x hx=>h x (arE hx),by simp[Pc.den,arY]⟩
 |sym s o m=>
  have h:o+m≤(eb.val s).length:=h
  have hn:n≤m:=hn
  refine⟨show o+n+(m-n)≤_ by omega,?_⟩
  simp only[Pc.drop,Pc.den,List.drop_take,aq3]
theorem Uo{p:Pc}(h:p.Ok)(h0:p.len=0):p.den=[]:=apW (by rw[wi h,h0])
def A9(p:Pc)(l:List Pc):List Pc:=
 bif Nat.beq p.len 0 then l else
 match p,l with
 |.lit a,.lit b::l=>.lit (mP a b)::l
 |.sym s o n,.sym s' o' n'::l=>bif Nat.beq s s'&&Nat.beq (o+n) o' then .sym s o (n+n')::l else .sym s o n::.sym s' o' n'::l
 |p,l=>p::l
theorem CQ{p:Pc}{l:List Pc}(hp:p.Ok)(hl:ig l):ig (A9 p l)∧eo (A9 p l)=p.den++eo l:=by
 unfold A9
 cases hb:Nat.beq p.len 0 with
 |true=>exact⟨hl,by rw[Uo hp (ap9 hb)];rfl⟩
 |false=>
  simp only[cond_false]
  split
  ·rename_i a b l
   refine⟨ig.cons (fun x hx=>?_) hl.tail,?_⟩
   ·rw[FD]at hx
    exact(aqr.1 hx).elim (hp x) (hl.head x)
   ·simp[eo,Pc.den,FD,ap3]
  ·rename_i s o n s' o' n' l
   cases hc:Nat.beq s s'&&Nat.beq (o+n) o' with
   |true=>
    simp only[apP,aqi]at hc
    obtain⟨rfl,rfl⟩:=hc
    have h1:o+n+n'≤(eb.val s).length:=hl.head
    refine⟨ig.cons (show o+(n+n')≤_ by omega) hl.tail,?_⟩
    simp only[cond_true,eo,Pc.den,List.take_add,aq3,ap3]
   |false=>exact⟨ig.cons hp hl,rfl⟩
  ·exact⟨ig.cons hp hl,rfl⟩
def Ko:List Pc→List Pc→List Pc
 |[],m=>m
 |p::l,m=>A9 p (Ko l m)
theorem Ns: ∀{l m:List Pc},ig l→ig m→ig (Ko l m)∧eo (Ko l m)=eo l++eo m
 |[],m,_,h=>⟨h,rfl⟩
 |p::l,m,h,h2=>by
  obtain⟨a,b⟩:=Ns h.tail h2
  obtain⟨c,d⟩:=CQ h.head a
  exact⟨c,by simp only[Ko,d,b,eo,ap3]⟩
def Ba:Nat→List Pc→List Pc
 |_,[]=> []
 |n,p::l=>bif Nat.ble p.len n then p::Ba (n-p.len) l else A9 (p.take n) []
theorem Kp: ∀{l:List Pc} {n:Nat},ig l→ig (Ba n l)∧eo (Ba n l)=(eo l).take n
 |[],n,_=>⟨ot,by simp[Ba,eo]⟩
 |p::l,n,h=>by
  simp only[Ba]
  have hd:=wi h.head
  cases hb:Nat.ble p.len n with
  |true=>
   obtain⟨a,b⟩:=Kp (n:=n-p.len) h.tail
   have hle:p.len≤n:=Nat.le_of_ble_eq_true hb
   refine⟨ig.cons h.head a,?_⟩
   simp only[cond_true,eo,b]
   rw[List.take_append,hd,apR (l:=p.den) (by omega)]
  |false=>
   have hle:n<p.len:=Nat.lt_of_not_le fun h=>by rw[Nat.ble_eq_true_of_le h]at hb;cases hb
   obtain⟨a,b⟩:=Pc.W3 (n:=n) h.head
   obtain⟨c,d⟩:=CQ a ot
   refine⟨c,?_⟩
   simp only[cond_false,d,b,eo,aqp]
   rw[are (by omega)]
def Bb:Nat→List Pc→List Pc
 |_,[]=> []
 |n,p::l=>bif Nat.ble p.len n then Bb (n-p.len) l else A9 (p.drop n) l
theorem Kq: ∀{l:List Pc} {n:Nat},ig l→ig (Bb n l)∧eo (Bb n l)=(eo l).drop n
 |[],n,_=>⟨ot,by simp[Bb,eo]⟩
 |p::l,n,h=>by
  simp only[Bb]
  have hd:=wi h.head
  cases hb:Nat.ble p.len n with
  |true=>
   obtain⟨a,b⟩:=Kq (n:=n-p.len) h.tail
   have hle:p.len≤n:=Nat.le_of_ble_eq_true hb
   refine⟨a,?_⟩
   simp only[cond_true,eo,b]
   rw[arZ,hd,List.drop_eq_nil_of_le (as:=p.den) (by omega),List.nil_append]
  |false=>
   have hle:n<p.len:=Nat.lt_of_not_le fun h=>by rw[Nat.ble_eq_true_of_le h]at hb;cases hb
   obtain⟨a,b⟩:=Pc.W4 (n:=n) h.head (by omega)
   obtain⟨c,d⟩:=CQ a h.tail
   refine⟨c,?_⟩
   simp only[cond_false,d,b,eo]
   rw[arf (by omega)]
def RT:Nat→List Pc→Option (Option Nat)
 |_,[]=>none
 |n,p::l=>bif Nat.ble p.len n then RT (n-p.len) l else(match p with
  |.lit b=>(b[n]?).map some
  |.sym _ _ _=>some none)
theorem Kr: ∀{l:List Pc} {n:Nat} {r:Option Nat},ig l→RT n l=some r→ ∃b,(eo l)[n]?=some b∧ ∀c,r=some c→b.toNat=c
 |[],n,r,_,h=>by simp[RT]at h
 |p::l,n,r,h,e=>by
  simp only[RT]at e
  have hd:=wi h.head
  cases hb:Nat.ble p.len n with
  |true=>
   rw[hb]at e
   have hle:p.len≤n:=Nat.le_of_ble_eq_true hb
   obtain⟨b,h1,h2⟩:=Kr h.tail e
   exact⟨b,by simp only[eo];rw[aqL (by omega),hd];exact h1,h2⟩
  |false=>
   rw[hb]at e
   simp only[cond_false]at e
   have hle:n<p.len:=Nat.lt_of_not_le fun h=>by rw[Nat.ble_eq_true_of_le h]at hb;cases hb
   have key:(eo (p::l))[n]?=p.den[n]?:=by simp only[eo];rw[ap7 (by omega)]
   rw[key]
   cases p with
   |lit b=>
    simp only[ap0]at e
    obtain⟨c,hc,rfl⟩:=e
    refine⟨UInt8.ofNat c,by simp[Pc.den,hc],fun d hd=>?_⟩
    obtain rfl:=apO hd
    have:=h.head c (aqg hc)
    simp;omega
   |sym s o m=>
    obtain rfl:=apO e
    obtain⟨b,hb⟩:=aC (l:=(Pc.sym s o m).den) (i:=n) (by omega)
    exact⟨b,hb,fun c hc=>by cases hc⟩
def Bc:List Nat→List Nat→Bool
 |a::l,b::m=>!Nat.beq a b||Bc l m
 |_,_=>false
theorem Ks: ∀{a b:List Nat} {x y:List UInt8},(∀n∈a,n<256)→(∀n∈b,n<256)→Bc a b=true→a.map UInt8.ofNat++x≠b.map UInt8.ofNat++y
 |[],_,_,_,_,_,h=>by simp[Bc]at h
 |_::_,[],_,_,_,_,h=>by simp[Bc]at h
 |a::l,b::m,x,y,ha,hb,h=>by
  simp only[Bc,aqe,aqC]at h
  intro e
  simp only[aqt,List.cons_append,List.cons.injEq]at e
  rcases h with h|h
  ·have h1:=congrArg UInt8.toNat e.1
   have:=ha a (by simp)
   have:=hb b (by simp)
   simp only[UInt8.toNat_ofNat']at h1
   have:a=b:=by omega
   subst this
   simp at h
  ·exact Ks (fun n hn=>ha n (aqF _ hn)) (fun n hn=>hb n (aqF _ hn)) h e.2
def O9:List Pc→List Pc→Bool
 |.lit a::_,.lit b::_=>Bc a b
 |_,_=>false
def VJ(l m:List Pc):Option Bool:=bif xx l m then some true else bif !Nat.beq (p7 l) (p7 m)then some false else bif O9 l m then some false else none
theorem RU{l m:List Pc}{b:Bool}(hl:ig l)(hm:ig m)(h:VJ l m=some b):(eo l==eo m)=b:=by
 unfold VJ at h
 cases h1:xx l m with
 |true=>
  rw[h1]at h
  obtain rfl:=AM h1
  obtain rfl:=apO h
  simp
 |false=>
  rw[h1]at h
  simp only[cond_false]at h
  cases h2:Nat.beq (p7 l) (p7 m)with
  |false=>
   rw[h2]at h
   obtain rfl:=apO h
   rw[beq_eq_false_iff_ne]
   intro e
   have:=congrArg List.length e
   rw[my hl,my hm]at this
   rw[this]at h2
   simp at h2
  |true=>
   rw[h2]at h
   simp only[Bool.not_true,cond_false]at h
   cases h3:O9 l m with
   |false=>rw[h3]at h;cases h
   |true=>
    rw[h3]at h
    obtain rfl:=apO h
    unfold O9 at h3
    split at h3
    ·rw[beq_eq_false_iff_ne]
     exact Ks hl.head hm.head h3
    ·cases h3
def zZ:Int→Bool
 |.ofNat n=>Nat.beq n 0
 |_=>false
theorem ach{c:Int}(h:zZ c=true):c=0:=by
 cases c with
 |ofNat n=>obtain rfl:=ap9 h;rfl
 |negSucc n=>cases h
def GY(x:T):Option (List Pc):=
 match x with
 |.fY l=>some l
 |.str (.aH g c)=>bif Nat.beq g 0&&zZ c then some []else none
 |_=>none
def Eo(x:T):Option (IntKind×Int):=
 match x with
 |.int k (.aH g c)=>bif Nat.beq g 0 then some (k,c)else none
 |_=>none
variable {θ : List Int}
theorem wJ(h0:θ[0]?=some 0){x:T}{v:V}{l:List Pc}(h:GY x=some l)(hx:Has θ x v):ig l∧v=.str (eo l):=by
 unfold GY at h
 split at h
 ·obtain rfl:=apO h
  cases hx with|fY ok=>exact⟨ok,rfl⟩
 ·rename_i g c
  cases hb:Nat.beq g 0&&zZ c with
  |false=>rw[hb]at h;cases h
  |true=>
   rw[hb]at h
   obtain rfl:=apO h
   simp only[apP,aqi]at hb
   obtain⟨rfl,hc⟩:=hb
   obtain rfl:=ach hc
   cases hx with
   |@str _ s p=>
    obtain⟨y,h1,h2⟩:=p
    rw[h0]at h1
    obtain rfl:=apO h1
    have:s=[]:=apW (by omega)
    subst this
    exact⟨ot,rfl⟩
 ·cases h
theorem tJ(h0:θ[0]?=some 0){x:T}{v:V}{k:IntKind}{c:Int}(h:Eo x=some (k,c))(hx:Has θ x v):v=.int k c:=by
 unfold Eo at h
 split at h
 ·rename_i k' g c'
  cases hb:Nat.beq g 0 with
  |false=>rw[hb]at h;cases h
  |true=>
   rw[hb]at h
   simp only[cond_true,aqy,apX]at h
   obtain⟨rfl,rfl⟩:=h
   obtain rfl:=ap9 hb
   cases hx with
   |@int _ _ n p=>
    obtain⟨y,h1,h2⟩:=p
    rw[h0]at h1
    obtain rfl:=apO h1
    rw[h2,Int.zero_add]
 ·cases h
theorem pv(h0:θ[0]?=some 0){k:IntKind}{c:Int}:Has θ (.int k (.aH 0 c)) (.int k c):=.int ⟨0,h0,by omega⟩
theorem hasB{b:Bool}:Has θ (.bool (some b) [] []) (.bool b):=.bool (fun c h=>apO h) (fun _=>cr) (fun _=>cr)
def wr(kd:IntKind)(n:Int):Int:=bif eM kd.min n&&eM n kd.max then n else kd.wrap n
theorem Ep{kd:IntKind}{n:Int}:wr kd n=kd.wrap n:=by
 unfold wr
 cases h:eM kd.min n&&eM n kd.max with
 |true=>
  simp only[apP,hP]at h
  exact(Nt kd h.1 h.2).symm
 |false=>rfl
def pw(kd:IntKind)(n:Int):T:=.int kd (.aH 0 n)
def VK(a b:Int):Bool:=
 match a with
 |.ofNat m=>(match b with|.ofNat n=>Nat.beq m n|.negSucc _=>false)
 |.negSucc m=>(match b with|.ofNat _=>false|.negSucc n=>Nat.beq m n)
theorem RV{a b:Int}:VK a b=(a==b):=by
 rw[aqP,beq_iff_eq]
 cases a<;>cases b<;>simp[VK]<;>omega
def Nu(b:Bool):T:=.bool (some b) [] []
def Up(op:BinOp)(kd:IntKind)(a:Int)(cH:IntKind)(b:Int):Option T:=
 match op with
 |.mul=>if kd=cH then some (pw kd (wr kd (a*b)))else none
 |.quo=>if kd=cH∧b≠0 then some (pw kd (wr kd (a.tdiv b)))else none
 |.rem=>if kd=cH∧b≠0 then some (pw kd (a.tmod b))else none
 |.and=>if kd=cH then some (pw kd (bits .and kd a b))else none
 |.or=>if kd=cH then some (pw kd (bits .or kd a b))else none
 |.xor=>if kd=cH then some (pw kd (bits .xor kd a b))else none
 |.andNot=>if kd=cH then some (pw kd (bits .andNot kd a b))else none
 |.shl=>if 0≤b then some (pw kd (wr kd (a*2^(min b.toNat kd.bits))))else none
 |.shr=>if 0≤b then some (pw kd (a/2^(min b.toNat kd.bits)))else none
 |.add=>if kd=cH then some (pw kd (wr kd (a+b)))else none
 |.sub=>if kd=cH then some (pw kd (wr kd (a-b)))else none
 |.eql=>if kd=cH then some (Nu (VK a b))else none
 |.neq=>if kd=cH then some (Nu (!VK a b))else none
 |.lss=>if kd=cH then some (Nu (!eM b a))else none
 |.leq=>if kd=cH then some (Nu (eM a b))else none
 |.gtr=>if kd=cH then some (Nu (!eM a b))else none
 |.geq=>if kd=cH then some (Nu (eM b a))else none
theorem W5(h0:θ[0]?=some 0){op:BinOp}{kd cH:IntKind}{a b:Int}{t:T}(h:Up op kd a cH b=some t){k:V→Prop}(hk: ∀v,Has θ t v→k v):tK op kd a cH b k:=by
 cases op<;>simp only[Up]at h<;>first|(cases h;done)|skip
 all_goals
  obtain⟨e,rfl⟩:=aG h
  simp only[tK]
 case mul=>exact⟨e,by rw[←Ep];exact hk _ (pv h0)⟩
 case quo=>exact⟨e.1,e.2,by rw[←Ep];exact hk _ (pv h0)⟩
 case rem=>exact⟨e.1,e.2,hk _ (pv h0)⟩
 case and=>exact⟨e,hk _ (pv h0)⟩
 case or=>exact⟨e,hk _ (pv h0)⟩
 case xor=>exact⟨e,hk _ (pv h0)⟩
 case andNot=>exact⟨e,hk _ (pv h0)⟩
 case shl=>exact⟨e,by rw[←Ep];exact hk _ (pv h0)⟩
 case shr=>exact⟨e,hk _ (pv h0)⟩
 case add=>exact⟨e,by rw[←Ep];exact hk _ (pv h0)⟩
 case sub=>exact⟨e,by rw[←Ep];exact hk _ (pv h0)⟩
 case eql=>exact⟨e,by rw[←RV];exact hk _ hasB⟩
 case neq=>exact⟨e,by rw[bne,←RV];exact hk _ hasB⟩
 case lss=>exact⟨e,by rw[show decide (a<b)=!eM b a from by rw[aqP];simp[hP,←Bool.not_eq_true]];exact hk _ hasB⟩
 case leq=>exact⟨e,by rw[show decide (a≤b)=eM a b from by rw[aqP];simp[hP]];exact hk _ hasB⟩
 case gtr=>exact⟨e,by rw[show decide (b<a)=!eM a b from by rw[aqP];simp[hP,←Bool.not_eq_true]];exact hk _ hasB⟩
 case geq=>exact⟨e,by rw[show decide (b≤a)=eM b a from by rw[aqP];simp[hP]];exact hk _ hasB⟩
def Uq(op:BinOp)(l m:List Pc):Option T:=
 match op with
 |.add=>if p7 l+p7 m≤9223372036854775807 then some (.fY (Ko l m))else none
 |.eql=>(VJ l m).map fun b=>.bool (some b) [] []
 |.neq=>(VJ l m).map fun b=>.bool (some (!b)) [] []
 |_=>none
theorem W6{op:BinOp}{l m:List Pc}{t:T}(hl:ig l)(hm:ig m)(h:Uq op l m=some t){k:V→Prop}(hk: ∀v,Has θ t v→k v):vt op (eo l) (eo m) k:=by
 cases op<;>simp only[Uq]at h<;>first|(cases h;done)|skip
 ·obtain⟨e,rfl⟩:=aG h
  obtain⟨a,b⟩:=Ns hl hm
  exact⟨by rw[my hl,my hm];exact e,by rw[←b];exact hk _ (.fY a)⟩
 ·simp only[ap0]at h
  obtain⟨b,hb,rfl⟩:=h
  simp only[vt,RU hl hm hb]
  exact hk _ hasB
 ·simp only[ap0]at h
  obtain⟨b,hb,rfl⟩:=h
  simp only[vt,RU hl hm hb]
  exact hk _ hasB
section
variable {P : Program} {F : List Fact} {E : SL} {R : List AR} {id : Nat} {s : List V} {rows : List Row}
def Ur(op:BinOp)(x y:T):Option T:=
 match Eo x,Eo y with
 |some (kd,a),some (cH,b)=>Up op kd a cH b
 |_,_=>(match GY x,GY y with
  |some l,some m=>Uq op l m
  |_,_=>none)
theorem Us{op:BinOp}{xt yt:TypeId}{x y:Operand}{t:T}(h:Ur op (oT E x) (oT E y)=some t):dx P F E R id (.binOp op xt x y yt) t []:=dw fun θ s rows k hO hk=>by
 have h1:=bJ hO x
 have h2:=bJ hO y
 simp only[bF]
 unfold Ur at h
 split at h
 ·rename_i e1 e2
  rw[tJ hO.zero e1 h1,tJ hO.zero e2 h2]
  exact W5 hO.zero h hk
 ·split at h
  ·rename_i e1 e2
   obtain⟨o1,v1⟩:=wJ hO.zero e1 h1
   obtain⟨o2,v2⟩:=wJ hO.zero e2 h2
   rw[v1,v2]
   exact W6 o1 o2 h hk
  ·cases h
def Kt(P:Program)(t:TypeId)(x ix:T):Option T:=
 match GY x,Eo ix with
 |some l,some (_,i)=>if fP P t=true∧0≤i then(match RT i.toNat l with
  |some (some b)=>some (.int .u8 (.aH 0 (Int.ofNat b)))
  |some none=>some (.int .u8 (.aR 0 255))
  |none=>none)else none
 |_,_=>none
theorem Pa{t:TypeId}{x ix:Operand}{r:T}(h:Kt P t (oT E x) (oT E ix)=some r):dx P F E R id (.index t x ix) r []:=dw fun θ s rows k hO hk=>by
 have h1:=bJ hO x
 have h2:=bJ hO ix
 simp only[bF]
 unfold Kt at h
 split at h
 ·rename_i l ki i e1 e2
  rw[tJ hO.zero e2 h2]
  obtain⟨o1,v1⟩:=wJ hO.zero e1 h1
  rw[v1]
  split at h
  ·rename_i hc
   split at h
   ·rename_i b hb
    obtain rfl:=apO h
    obtain⟨c,c1,c2⟩:=Kr o1 hb
    refine⟨hc.1,hc.2,c,c1,hk _ ?_⟩
    rw[c2 _ rfl]
    exact pv hO.zero
   ·rename_i hb
    obtain rfl:=apO h
    obtain⟨c,c1,c2⟩:=Kr o1 hb
    exact⟨hc.1,hc.2,c,c1,hk _ (.int (Er c))⟩
   ·cases h
  ·cases h
 ·cases h
def wK(x:Option T)(d:Nat):Option Nat:=
 match x with
 |none=>some d
 |some t=>(match Eo t with
  |some (_,.ofNat m)=>some m
  |_=>none)
theorem uY(hO:Cx θ F E R s rows){x:Option Operand}{d n:Nat}(h:wK (x.map (oT E)) d=some n){k:Nat→Prop}(hk:k n):eI (x.map (ax s)) d k:=by
 cases x with
 |none=>obtain rfl:=apO h;exact hk
 |some x=>
  have h1:=bJ hO x
  simp only[aqU,wK]at h⊢
  split at h
  ·rename_i ki m e
   obtain rfl:=apO h
   rw[tJ hO.zero e h1]
   exact⟨aqS _,hk⟩
  ·cases h
def Ku(P:Program)(t:TypeId)(x:T)(lo hi mx:Option T):Option T:=
 match mx with
 |some _=>none
 |none=>match GY x with
  |some l=>(match wK hi (p7 l),wK lo 0 with
   |some h,some b=>if fP P t=true∧b≤h∧h≤p7 l then some (.fY (Ba (h-b) (Bb b l)))else none
   |_,_=>none)
  |none=>(match x with
   |.fX n cs=>(match wK hi n,wK lo 0,bt P t with
    |some h,some b,some e=>(match dW P e with
     |some sz=>if b≤h∧h≤n then some (.fX (h-b) ((cs.drop (b*sz)).take ((h-b)*sz)))else none
     |none=>none)
    |_,_,_=>none)
   |_=>none)
theorem Pb{t:TypeId}{x:Operand}{lo hi mx:Option Operand}{r:T}(h:Ku P t (oT E x) (lo.map (oT E)) (hi.map (oT E)) (mx.map (oT E))=some r):dx P F E R id (.slice t x lo hi mx) r []:=dw fun θ s rows k hO hk=>by
 have h1:=bJ hO x
 simp only[bF]
 unfold Ku at h
 split at h
 ·cases h
 ·rename_i hm
  have hm:mx=none:=by cases mx with|none=>rfl|some _=>cases hm
  subst hm
  refine⟨rfl,?_⟩
  split at h
  ·rename_i l e1
   obtain⟨o1,v1⟩:=wJ hO.zero e1 h1
   rw[v1]
   split at h
   ·rename_i hh b e2 e3
    obtain⟨⟨c1,c2,c3⟩,rfl⟩:=aG h
    obtain⟨d1,d2⟩:=Kq (n:=b) o1
    obtain⟨d3,d4⟩:=Kp (n:=hh-b) d1
    refine⟨c1,uY hO (by rw[my o1];exact e2) (uY hO e3 ⟨c2,by rw[my o1];exact c3,?_⟩)⟩
    rw[←d2,←d4]
    exact hk _ (.fY d3)
   ·cases h
  ·split at h
   ·rename_i n cs hx
    rw[hx]at h1
    split at h
    ·rename_i hh b e e2 e3 e4
     split at h
     ·rename_i sz e5
      obtain⟨⟨c2,c3⟩,rfl⟩:=aG h
      generalize ax s x=vx at h1
      cases h1 with
      |@fX _ _ vs p q=>
       refine⟨e,sz,e4,e5,uY hO e2 (uY hO e3 ⟨c2,c3,hk _ ?_⟩)⟩
       have:=lS (θ:=θ) (ts:=cs) (vs:=vs) ⟨p,q⟩ (b*sz) ((hh-b)*sz)
       exact .fX this.1 this.2
     ·cases h
    ·cases h
   ·cases h
def Ut(P:Program)(t:TypeId)(x:T):Option T:=
 match GY x with
 |some l=>if fP P t=true then some (.int .i64 (.aH 0 (Int.ofNat (p7 l))))else none
 |none=>(match x with
  |.fX n _=>if(bt P t).isSome=true then some (.int .i64 (.aH 0 (Int.ofNat n)))else none
  |_=>none)
theorem Uu{t:TypeId}{c:Call}{a:Operand}{r:T}(hc:c.callee=.builtin .len)(ha:c.args.toList=[a])(ht:c.argTypes[0]?=some t)(h:Ut P t (oT E a)=some r):dx P F E R id (.call c) r []:=dw fun θ s rows k hO hk=>by
 have h1:=bJ hO a
 simp only[bF,hc,ha,aqt,aq2,ic]
 refine⟨t,ht,?_⟩
 unfold Ut at h
 split at h
 ·rename_i l e1
  obtain⟨o1,v1⟩:=wJ hO.zero e1 h1
  obtain⟨hc,rfl⟩:=aG h
  rw[v1]
  refine⟨hc,?_⟩
  rw[my o1]
  exact hk _ (pv hO.zero)
 ·split at h
  ·rename_i n cs hx
   rw[hx]at h1
   obtain⟨hc,rfl⟩:=aG h
   generalize ax s a=vx at h1
   cases h1 with
   |fX p q=>exact⟨hc,hk _ (pv hO.zero)⟩
  ·cases h
def xU(P:Program)(t:TypeId)(x ix:T):Option T:=
 match Eo ix with
 |some (_,.ofNat i)=>(match bt P t with
  |some e=>(match dW P e with
   |some sz=>(match x with
    |.fX n cs=>if i<n∧notNil (cs.drop (i*sz))=true then some (.aL (cs.drop (i*sz)))else none
    |.av id l cG=>(match M7 l with
     |some n=>if cG=sz∧i<n then some (.ref id (i*sz))else none
     |none=>none)
    |_=>none)
   |none=>none)
  |none=>none)
 |_=>none
theorem FE{t:TypeId}{x ix:Operand}{r:T}(h:xU P t (oT E x) (oT E ix)=some r):dx P F E R id (.indexAddr t x ix) r []:=dw fun θ s rows k hO hk=>by
 have h1:=bJ hO x
 have h2:=bJ hO ix
 simp only[bF]
 unfold xU at h
 split at h
 ·rename_i ki i e2
  rw[tJ hO.zero e2 h2]
  split at h
  ·rename_i e he
   split at h
   ·rename_i sz cm
    split at h
    ·rename_i n cs hx
     rw[hx]at h1
     obtain⟨⟨c1,c2⟩,rfl⟩:=aG h
     generalize ax s x=vx at h1
     cases h1 with
     |@fX _ _ vs p q=>
      refine⟨e,sz,he,cm,aqS _,by simpa using c1,hk _ (.aL (ea c2) (by simp[p]) fun j t v a b=>?_)⟩
      rw[aqb]at a b
      exact q _ t v a b
    ·rename_i jV l cG hx
     rw[hx]at h1
     split at h
     ·rename_i n hn
      obtain⟨⟨rfl,c2⟩,rfl⟩:=aG h
      generalize ax s x=vx at h1
      cases h1 with
      |av p=>
       obtain rfl:=Jk hO.zero hn p
       refine⟨e,he,cm,aqS _,by simpa using c2,?_⟩
       have:k (.ref jV (i*cG)) rows:=hk _ .ref
       simpa using this
     ·cases h
    ·cases h
   ·cases h
  ·cases h
 ·cases h
def qN(R:List AR)(sz:Nat)(x:T):Option (Nat×List T):=
 match x with
 |.aj=>some (0,[])
 |.fX m cs=>if cs.length=m*sz then some (m,cs)else none
 |.av id l cG=>if cG=sz then(match M7 l,R[id]? with
  |some m,some (.cells c)=>if m*sz≤c.length then some (m,c.take (m*sz))else none
  |_,_=>none)else none
 |_=>none
theorem uR(hO:Cx θ F E R s rows){sz:Nat}{x:T}{vx:V}{m:Nat}{l:List T}(h:qN R sz x=some (m,l))(hx:Has θ x vx){k:Nat→List V→Prop}(hk: ∀cs,bg θ l cs→cs.length=m*sz→k m cs):gT sz vx rows k:=by
 unfold qN at h
 split at h
 ·simp only[aqy,apX]at h
  obtain⟨rfl,rfl⟩:=h
  cases hx
  exact hk [] ⟨rfl,fun i t v h=>by simp at h⟩ (by simp)
 ·obtain⟨hc,h⟩:=aG h
  simp only[apX]at h
  obtain⟨rfl,rfl⟩:=h
  cases hx with
  |fX p q=>exact⟨by rw[←p];exact hc,hk _ ⟨p,q⟩ (by rw[←p];exact hc)⟩
 ·split at h
  ·rename_i jV iv cG hs
   subst hs
   split at h
   ·rename_i m' c hm hr
    obtain⟨hc,h⟩:=aG h
    simp only[apX]at h
    obtain⟨rfl,rfl⟩:=h
    cases hx with
    |@av _ _ n _ p=>
     obtain rfl:=Jk hO.zero hm p
     obtain⟨r,px⟩:=aC (l:=rows) (i:=jV) (by rw[←hO.di];exact(apN.1 hr).1)
     have gd:=hO.rows _ _ _ hr px
     cases r with
     |live cs=>
      have gd:bg θ c cs:=gd
      refine⟨rfl,cs,px,by rw[←gd.1];omega,hk _ (by simpa[b7]using lS gd 0 (n*cG)) ?_⟩
      simp only[b7,List.drop_zero,apT,←gd.1]
      omega
     |_=>exact gd.elim
   ·cases h
  ·cases h
 ·cases h
def Es:List T→Option (List Nat)
 |[]=>some []
 |t::l=>(match t with
  |.int k (.aH g (.ofNat n))=>bif Nat.beq g 0&&(decide (k=.u8)&&Nat.ble n 255)then(Es l).map (n:: ·)else none
  |_=>none)
theorem Kv(h0:θ[0]?=some 0): ∀{l:List T} {b:List Nat} {cs:List V},Es l=some b→bg θ l cs→(∀c∈cs,c.isByte=true)∧(∀x∈b,x<256)∧cs.map toByte=b.map UInt8.ofNat
 |[],b,cs,h,hl=>by
  obtain rfl:=apO h
  obtain rfl:=apW hl.1.symm
  exact⟨by simp,by simp,rfl⟩
 |t::l,b,[],h,hl=>by simp[bg]at hl
 |t::l,b,c::cs,h,hl=>by
  simp only[Es]at h
  split at h
  ·rename_i k g n
   cases hb:Nat.beq g 0&&(decide (k=.u8)&&Nat.ble n 255)with
   |false=>rw[hb]at h;cases h
   |true=>
    rw[hb]at h
    simp only[apP,aqi,decide_eq_true_eq,arS]at hb
    obtain⟨rfl,rfl,hn⟩:=hb
    simp only[cond_true,ap0]at h
    obtain⟨b',gF,rfl⟩:=h
    have h1:=hl.2 0 _ c rfl rfl
    have h2:bg θ l cs:=⟨by simpa using hl.1,fun i t v p q=>hl.2 (i+1) t v (by simpa using p) (by simpa using q)⟩
    obtain⟨a1,a2,a3⟩:=Kv h0 gF h2
    have hc:c=.int .u8 (Int.ofNat n):=by
     cases h1 with
     |@int _ _ m p=>
      obtain⟨y,h1,h2⟩:=p
      rw[h0]at h1
      obtain rfl:=apO h1
      rw[h2,Int.zero_add]
    subst hc
    refine⟨fun c hc=>?_,fun x hx=>?_,?_⟩
    ·rcases ap8.1 hc with rfl|hc
     ·rfl
     ·exact a1 c hc
    ·rcases ap8.1 hx with rfl|hx
     ·omega
     ·exact a2 x hx
    ·simp only[aqt,a3];rfl
  ·cases h
def Uv(b:List Nat):List Pc:=
 match b with
 |[]=> []
 |b=> [.lit b]
theorem W7{b:List Nat}(h: ∀x∈b,x<256):Has θ (.fY (Uv b)) (.str (b.map UInt8.ofNat)):=by
 cases b with
 |nil=>exact .fY ot
 |cons n b=>
  have:Has θ (.fY [.lit (n::b)]) (.str (eo [.lit (n::b)])):=.fY (ig.cons h ot)
  simp only[eo,Pc.den,aqp]at this
  exact this
def Pd(P:Program)(R:List AR)(sr d:TypeId)(x:T):Option T:=
 match GY x with
 |some l=>if(P.underlying sr).isSome=true∧fP P d=true then some (.fY l)else none
 |none=>(match x with
  |.int _ _=>none
  |.str _=>none
  |.lit _=>none
  |.fX _ _|.av _ _ _|.aj=>if fP P d=true∧(bt P sr).bind (uint P)=some .u8 then(match qN R 1 x with
   |some (_,c)=>(Es c).map fun b=>.fY (Uv b)
   |none=>none)else none
  |_=>none)
theorem RW{sr d:TypeId}{x:Operand}{r:T}(h:Pd P R sr d (oT E x)=some r):dx P F E R id (.convert sr d x) r []:=dw fun θ s rows k hO hk=>by
 have h1:=bJ hO x
 simp only[bF]
 generalize oT E x=X at h h1
 generalize ax s x=vx at h1
 unfold Pd at h
 split at h
 ·rename_i l e1
  obtain⟨o1,v1⟩:=wJ hO.zero e1 h1
  obtain⟨hc,rfl⟩:=aG h
  rw[v1]
  simp only[uZ]
  exact⟨hc.1,by rw[if_pos hc.2];exact hk _ (.fY o1)⟩
 ·have key: ∀{X:T},Has θ X vx→(if fP P d=true∧(bt P sr).bind (uint P)=some .u8 then(match qN R 1 X with
    |some (_,c)=>(Es c).map fun b=>T.fY (Uv b)
    |none=>none)else none)=some r→fP P d=true∧(∃e,bt P sr=some e∧uint P e=some .u8)∧gT 1 vx rows fun _ cs=>(∀c∈cs,c.isByte=true)∧k (.str (cs.map toByte)) rows:=by
   intro X h1 h
   split at h
   ·rename_i hc
    obtain⟨c1,c2⟩:=hc
    split at h
    ·rename_i m c hs
     simp only[ap0]at h
     obtain⟨b,hb,rfl⟩:=h
     refine⟨c1,?_,uR hO hs h1 fun cs q1 q2=>?_⟩
     ·cases hu:bt P sr with
      |none=>rw[hu]at c2;cases c2
      |some e=>rw[hu]at c2;exact⟨e,rfl,c2⟩
     ·obtain⟨a1,a2,a3⟩:=Kv hO.zero hb q1
      refine⟨a1,?_⟩
      rw[a3]
      exact hk _ (W7 a2)
    ·cases h
   ·cases h
  split at h
  all_goals first|(cases h;done)|skip
  ·have q:=key h1 h
   cases h1
   simp only[uZ]
   exact q
  ·have q:=key h1 h
   cases h1
   simp only[uZ]
   exact q
  ·have q:=key h1 h
   cases h1
   simp only[uZ]
   exact q
def Pe(n db:Nat):Bool:=Nat.ble (n*db) 140737488355328&&Nat.ble n 1099511627776
theorem W8{l:List T}{cs:List V}(h:bg θ l cs)(ho:l.all T.one=true): ∀c∈cs,c.one=true:=by
 intro c hc
 obtain⟨i,hi⟩:=aqm.1 hc
 obtain⟨t,ht⟩:=aC (l:=l) (i:=i) (by rw[h.1];exact(apN.1 hi).1)
 exact(h.2 i t c ht hi).one (ap1.1 ho t (aqg ht))
def FF(P:Program)(R:List AR)(id:Nat)(t:TypeId)(s x:T):zR:=
 match bt P t with
 |none=>none
 |some e=>(match dW P e,nH P e,ag P e with
  |some sz,some db,some z=>if z.length=sz then(match qN R sz x with
   |some (m,new)=>if new.all T.one=true then(match s with
    |.aj=>if Pe m db=true then some (.av id (.aH 0 (Int.ofNat m)) sz,[(id,.cells new)])else none
    |.av fi l cG=>if cG=sz then(match qN R sz (.av fi l cG)with
     |some (n,eW)=>if Pe (n+m) db=true then some (.av id (.aH 0 (Int.ofNat (n+m))) sz,[(fi,.dead),(id,.cells (eW++new))])else none
     |none=>none)else none
    |_=>none)else none
   |none=>none)else none
  |_,_,_=>none)
theorem Md{t t':TypeId}{c:Call}{a b:Operand}{r:T}{u:List (Nat×AR)}(hc:c.callee=.builtin .append)(ha:c.args.toList=[a,b])(ht:c.argTypes[0]?=some t)(Et:c.argTypes[1]?=some t')(Nv:((bt P t').isSome||fP P t')=true)
  (h:FF P R id t (oT E a) (oT E b)=some (r,u)):dx P F E R id (.call c) r u:=fun θ s rows k hO hf hk=>by
 have h1:=bJ hO a
 have h2:=bJ hO b
 simp only[bF,hc,ha,aqt,aq2,ic]
 refine⟨t,t',ht,Et,by simpa using Nv,?_⟩
 generalize oT E a=X at h h1
 generalize ax s a=vx at h1
 generalize oT E b=Y at h h2
 generalize ax s b=vy at h2
 unfold FF at h
 split at h
 ·cases h
 ·rename_i e he
  split at h
  ·rename_i sz db z cm yn hz
   split at h
   ·rename_i uU
    split at h
    ·rename_i m new nE
     split at h
     ·rename_i qf
      refine⟨e,sz,db,z,he,cm,yn,hz,uU,uR hO nE h2 fun cs q1 q2=>?_⟩
      refine⟨W8 q1 qf,?_⟩
      split at h
      ·obtain⟨c1,h⟩:=aG h
       simp only[apX]at h
       obtain⟨rfl,rfl⟩:=h
       cases h1
       simp only[Pe,apP,arS]at c1
       exact⟨c1.1,c1.2,hf,hk _ _ (.av ⟨0,hO.zero,by simp⟩) (oG hf q1)⟩
      ·rename_i fi n cG
       split at h
       ·rename_i bX
        subst bX
        split at h
        ·rename_i n' eW vu
         obtain⟨c1,h⟩:=aG h
         simp only[apX]at h
         obtain⟨rfl,rfl⟩:=h
         have hs0:=uR hO vu h1 (k:=fun nv ds=>nv=n'∧bg θ eW ds∧ds.length=n'*cG) fun ds w1 w2=>⟨rfl,w1,w2⟩
         cases h1 with
         |@av _ _ nv _ p=>
         obtain⟨-,ds,w1,w2,rfl,w4,w5⟩:=hs0
         simp only[Pe,apP,arS]at c1
         have bw:fi≠id:=by
          rintro rfl
          rcases hf with h|h
          ·have:=(apN.1 w1).1;omega
          ·rw[w1]at h;cases h
         have BS:dB (rows.set fi .dead) id:=by
          rcases hf with h|h
          ·exact .inl (by simpa using h)
          ·exact .inr (by rw[ap6 bw];exact h)
         have hle:id≤(rows.set fi .dead).length:=by
          rcases BS with h|h
          ·omega
          ·exact aqx (apN.1 h).1
         refine⟨rfl,c1.1,c1.2,hf,ds,w1,w2,hk _ _ (.av ⟨0,hO.zero,by simp⟩) ⟨fun j hj=>?_,fun j a hj=>?_⟩⟩
         ·rw[bH hle,if_neg,ap6]
          ·rintro rfl;exact hj .dead (by simp)
          ·rintro rfl;exact hj (.cells (eW++new)) (by simp)
         ·rcases ap8.1 hj with hj|hj
          ·obtain⟨rfl,rfl⟩:=aq7 hj
           exact⟨.dead,by rw[bH hle,if_neg bw];simp[(apN.1 w1).1],fun h=>by cases h⟩
          ·obtain⟨rfl,rfl⟩:=aq7 (aqn.1 hj)
           exact⟨.live _,by rw[bH hle,if_pos rfl],(CK w4 q1:)⟩
        ·cases h
       ·cases h
      ·cases h
     ·cases h
    ·cases h
   ·cases h
  ·cases h
def xV(P:Program)(t:TypeId)(l c:T):Option (Nat×Nat×List T):=
 match Eo l,Eo c with
 |some (_,.ofNat n),some (_,.ofNat m)=>(match bt P t with
  |some e=>(match dW P e,nH P e,u0 P e with
   |some sz,some db,some z=>if z.length=sz∧Nat.beq n m=true∧Nat.ble n 4096=true∧Nat.ble (db*n) 281474976710656=true then some (n,sz,(List.replicate n z).flatten)else none
   |_,_,_=>none)
  |none=>none)
 |_,_=>none
theorem FG{t:TypeId}{l c:Operand}{n sz:Nat}{z:List T}(h:xV P t (oT E l) (oT E c)=some (n,sz,z)):
  dx P F E R id (.makeSlice t l c) (.av id (.aH 0 (Int.ofNat n)) sz) [(id,.cells z)]:=fun θ s rows k hO hf hk=>by
 have h1:=bJ hO l
 have h2:=bJ hO c
 simp only[bF]
 unfold xV at h
 split at h
 ·rename_i k1 n1 k2 n2 e1 e2
  rw[tJ hO.zero e1 h1,tJ hO.zero e2 h2]
  split at h
  ·rename_i e he
   split at h
   ·rename_i cG db z' cm yn hz
    obtain⟨hc,h⟩:=aG h
    simp only[apX]at h
    obtain⟨rfl,rfl,rfl⟩:=h
    obtain⟨c1,c2,c3,c4⟩:=hc
    obtain rfl:=ap9 c2
    simp only[arS]at c3 c4
    obtain⟨zv,h3,h4⟩:=py hz hO.zero
    refine⟨e,_,db,zv,he,cm,yn,h3,by rw[←h4.1];exact c1,aqS _,Int.le_refl _,?_,?_,hf,hk _ _ (.av ⟨0,hO.zero,by simp⟩) (oG hf (xW h4 _))⟩
    ·show((n1:Nat):Int)≤_;omega
    ·show(db:Int)*((n1:Nat):Int)≤_
     have:((db*n1:Nat):Int)≤281474976710656:=by omega
     simpa using this
   ·cases h
  ·cases h
 ·cases h
def VL(P:Program)(E:SL)(R:List AR)(id:Nat)(op:Op):zR:=
 match op with
 |.binOp op _ x y _=>(Ur op (oT E x) (oT E y)).map (·,[])
 |.convert sr d x=>(Pd P R sr d (oT E x)).map (·,[])
 |.makeSlice t l c=>(xV P t (oT E l) (oT E c)).map fun p=>(.av id (.aH 0 (Int.ofNat p.1)) p.2.1,[(id,.cells p.2.2)])
 |.slice t x lo hi mx=>(Ku P t (oT E x) (lo.map (oT E)) (hi.map (oT E)) (mx.map (oT E))).map (·,[])
 |.indexAddr t x i=>(xU P t (oT E x) (oT E i)).map (·,[])
 |.index t x i=>(Kt P t (oT E x) (oT E i)).map (·,[])
 |.call q=>(match q.callee with
  |.builtin .len=>(match q.args.toList,q.argTypes[0]? with
   |[a],some t=>(Ut P t (oT E a)).map (·,[])
   |_,_=>none)
  |.builtin .append=>(match q.args.toList,q.argTypes[0]?,q.argTypes[1]? with
   |[a,b],some t,some t'=>if(bt P t').isSome||fP P t' then FF P R id t (oT E a) (oT E b)else none
   |_,_,_=>none)
  |_=>none)
 |_=>none
theorem RX{op:Op}{t:T}{u:List (Nat×AR)}(h:VL P E R id op=some (t,u)):dx P F E R id op t u:=by
 cases op<;>simp only[VL]at h<;>first|(cases h;done)|skip
 case binOp a b c d e=>simp only[ap0,apX]at h;obtain⟨l,h1,rfl,rfl⟩:=h;exact Us h1
 case convert a b c=>simp only[ap0,apX]at h;obtain⟨l,h1,rfl,rfl⟩:=h;exact RW h1
 case makeSlice a b c=>simp only[ap0,apX]at h;obtain⟨⟨l1,l2,l3⟩,h1,rfl,rfl⟩:=h;exact FG h1
 case slice a b c d e=>simp only[ap0,apX]at h;obtain⟨l,h1,rfl,rfl⟩:=h;exact Pb h1
 case indexAddr a b c=>simp only[ap0,apX]at h;obtain⟨l,h1,rfl,rfl⟩:=h;exact FE h1
 case index a b c=>simp only[ap0,apX]at h;obtain⟨l,h1,rfl,rfl⟩:=h;exact Pa h1
 case call q=>
  split at h
  ·rename_i hq
   split at h
   ·rename_i ha ht
    simp only[ap0,apX]at h
    obtain⟨l,h1,rfl,rfl⟩:=h
    exact Uu hq ha ht h1
   ·cases h
  ·rename_i hq
   split at h
   ·rename_i ha ht Et
    split at h
    ·rename_i hc
     exact Md hq ha ht Et hc h
    ·cases h
   ·cases h
  ·cases h
end
end
end Go.Ck
set_option linter.unusedSectionVars false
namespace Go.Ck
noncomputable section
open Go.VS
variable [eb]
variable {rd : Option Nat} {b0 : Nat}
structure Env where
 xh:List fu
 dyn:FuncId→List T→Option T:=fun _ _=>none
 inl:Nat×List Fact→List AR→FuncId→List T→Option (List (T×St)):=fun _ _ _ _=>none
structure Env.Ok (P : Program) (L : Env) : Prop where
 xh:xq.Ok P L.xh
 dyn: ∀f ts t,L.dyn f ts=some t→(fu.mk f ts [] t [] 0).Ok P
 inl: ∀st R f ts l,L.inl st R f ts=some l→ ∀θ args rows,Ck.Ok θ ⟨st.1,st.2,.no,R⟩ [] rows→bg θ ts args→cO P f args rows fun r ad=> ∃p∈l,∃z,Ck.Ok (θ++z) {p.2 with S:=.one p.1} [r] ad
def Jh(F:List Fact)(i:IV):IV:=
 match i with
 |.aH 0 c=>.aH 0 c
 |i=>kI (i.lo F) (i.hi F)
mutual
def M4(F:List Fact):T→T
 |.int k i=>.int k (Jh F i)
 |.bool o _ _=>.bool o [] []
 |.str i=>.str (Jh F i)
 |.sl i e=>.sl (Jh F i) (gO F e)
 |.agg e=>.agg (gO F e)
 |.aB e=>.aB (gO F e)
 |.aL e=>.aL (gO F e)
 |.aj=>.aj
 |.aq=>.aq
 |.lit b=>.lit b
 |.fY l=>.fY l
 |.fX n e=>.fX n (gO F e)
 |.fn f e=>.fn f (gO F e)
 |_=>.any
def gO(F:List Fact):List T→List T
 |[]=> []
 |t::l=>M4 F t::gO F l
end
def Fh(F:List Fact)(R:List AR):Nat→T→T
 |0,t=>M4 F t
 |n+1,t=>match t with
  |.av id l sz=>(match M7 l,R[id]? with
   |some m,some (.cells c)=>.fX m ((c.take (m*sz)).map (Fh F R n))
   |_,_=>.any)
  |.ref id off=>(match R[id]? with
   |some (.cells c)=>.aL ((c.drop off).map (Fh F R n))
   |_=>.any)
  |.agg e=>.agg (e.map (Fh F R n))
  |.aB e=>.aB (e.map (Fh F R n))
  |t=>M4 F t
def aak(x:Bool)(F:List Fact)(R:List AR)(t:T):T:=
 bif x then Fh F R 6 t else match t with
 |.av id l sz=>(match iW F R sz (.av id l sz)with
  |some (l',e)=>if notNil e then .sl (Jh F l') (gO F e)else .aj
  |none=>.any)
 |.ref id off=>(match R[id]? with
  |some (.cells c)=>.aL (gO F (c.drop off))
  |_=>.any)
 |t=>M4 F t
def Bd(F:List Fact)(R:List AR)(f:FuncId)(ts:List T):List fu→zR
 |[]=>none
 |e::l=>bif Nat.beq e.f f then(match(match e.rows with
   |[]=>(Ek F R e ts).map (·,[])
   |_=>HZ F R e ts)with
  |some r=>some r
  |none=>Bd F R f ts l)else Bd F R f ts l
def VM(L:Env)(F:List Fact)(E:SL)(R:List AR)(q:Call):zR:=
 match q.callee with
 |.value fo=>(match oT E fo with
  |.fn f []=>(match Bd F R f (q.args.toList.map (oT E)) L.xh with
   |some r=>some r
   |none=>(match L.dyn f ((q.args.toList.map (oT E)).map (aak E.ex F R))with
    |some t=>(Ek F R ⟨f,(q.args.toList.map (oT E)).map (aak E.ex F R),[],t,[],0⟩ (q.args.toList.map (oT E))).map (·,[])
    |none=>none))
  |_=>none)
 |_=>none
def Kw(P:Program)(F:List Fact)(E:SL)(R:List AR)(id:Nat)(q:Call):zR:=
 match q.callee with
 |.builtin .len=>(match q.args.toList,q.argTypes[0]? with
  |[a],some t=>(Uw P t (oT E a)).map (·,[])
  |_,_=>none)
 |.builtin .append=>(match q.args.toList,q.argTypes[0]?,q.argTypes[1]? with
  |[a,b],some t,some t'=>if(bt P t').isSome||fP P t' then FH P F R id t (oT E a) (oT E b)else none
  |_,_,_=>none)
 |.builtin .min=>(match q.args.toList with
  |[a,b]=>(Be F false (oT E a) (oT E b)).map (·,[])
  |_=>none)
 |.builtin .max=>(match q.args.toList with
  |[a,b]=>(Be F true (oT E a) (oT E b)).map (·,[])
  |_=>none)
 |_=>none
def Pf(P:Program)(L:Env)(F:List Fact)(E:SL)(R:List AR)(id:Nat)(op:Op):zR:=
 match op with
 |.move x|.assign x=>some (oT E x,[])
 |.alloc e=>(u0 P e).map fun l=>(.ref id 0,[(id,.cells l)])
 |.box _ v=>(cellsOf (oT E v)).map fun l=>(.ref id 0,[(id,.cells l)])
 |.build t parts=>(Kx P E t parts.toList).map (·,[])
 |.buildSlice t len parts=>(vv P E t len parts.toList).map fun p=>(.av id (.aH 0 len) p.1,[(id,.cells p.2)])
 |.load t a=>(loadT P F R t (oT E a)).map (·,[])
 |.store t a v=>(storeT P F R t (oT E a) (oT E v)).map (.any, ·)
 |.nilCheck x=>if zc (oT E x)then some (oT E x,[])else none
 |.binOp op xt x y _=>(Ux P F op xt (oT E x) (oT E y)).map (·,[])
 |.unOp op _ x=>(unT op (oT E x)).map (·,[])
 |.convert sr d x=>Ph P F R id sr d (oT E x)
 |.makeSlice t l c=>(xX P F t (oT E l) (oT E c)).map fun p=>(.av id p.1 p.2.1,[(id,.arr p.1 p.2.2)])
 |.slice t x lo hi mx=>(Kz P F t (oT E x) (lo.map (oT E)) (hi.map (oT E)) (mx.map (oT E))).map (·,[])
 |.fieldAddr t x f=>(xY P t (oT E x) f).map (·,[])
 |.field t x f=>(Jp P t (oT E x) f).map (·,[])
 |.indexAddr t x i=>(xZ P F t (oT E x) (oT E i)).map (·,[])
 |.index t x i=>(KA P F t (oT E x) (oT E i)).map (·,[])
 |.extract t i=>(CC (oT E t) i).map (·,[])
 |.call q=>(match q.callee with
  |.builtin _=>Kw P F E R id q
  |_=>VM L F E R q)
 |_=>none
section
variable {P : Program} {L : Env} {θ : List Int} {F : List Fact} {E : SL} {R : List AR} {id : Nat} {s : List V} {rows : List Row}
theorem map_some{α β:Type}{o:Option α}{g:α→β}{b:β}(h:o.map g=some b): ∃a,o=some a∧g a=b:=by simpa using h
theorem x4{f:FuncId}{ts:List T}{r:T×List (Nat×AR)}: ∀{L:List fu},Bd F R f ts L=some r→ ∃e∈L,e.f=f∧(match e.rows with
   |[]=>(Ek F R e ts).map (·,[])
   |_=>HZ F R e ts)=some r
 |[],h=>by simp[Bd]at h
 |e::l,h=>by
  simp only[Bd]at h
  cases hf:Nat.beq e.f f with
  |true=>
   rw[hf]at h
   simp only[cond_true]at h
   split at h
   ·rename_i r' hr
    obtain rfl:=apO h
    exact⟨e,by simp,ap9 hf,hr⟩
   ·obtain⟨e',h1,h2⟩:=x4 h
    exact⟨e',by simp[h1],h2⟩
  |false=>
   rw[hf]at h
   obtain⟨e',h1,h2⟩:=x4 h
   exact⟨e',by simp[h1],h2⟩
theorem Nw(hL:Env.Ok P L){op:Op}{t:T}{u:List (Nat×AR)}(h:Pf P L F E R id op=some (t,u)):zQ P F E R id op t u:=by
 cases op<;>simp only[Pf]at h
 case move x=>simp only[aqy,apX]at h;obtain⟨rfl,rfl⟩:=h;exact TU.x
 case assign x=>simp only[aqy,apX]at h;obtain⟨rfl,rfl⟩:=h;exact Oy.x
 case alloc e=>obtain⟨l,h1,h2⟩:=map_some h;simp only[apX]at h2;obtain⟨rfl,rfl⟩:=h2;exact(RY h1).x
 case box e v=>obtain⟨l,h1,h2⟩:=map_some h;simp only[apX]at h2;obtain⟨rfl,rfl⟩:=h2;exact(W9 h1).x
 case build a b=>obtain⟨l,h1,h2⟩:=map_some h;simp only[apX]at h2;obtain⟨rfl,rfl⟩:=h2;exact(RZ h1).x
 case buildSlice a b c=>obtain⟨⟨l1,l2⟩,h1,h2⟩:=map_some h;simp only[apX]at h2;obtain⟨rfl,rfl⟩:=h2;exact(FI h1).x
 case load a b=>obtain⟨l,h1,h2⟩:=map_some h;simp only[apX]at h2;obtain⟨rfl,rfl⟩:=h2;exact(Cv h1).x
 case store a b c=>obtain⟨l,h1,h2⟩:=map_some h;simp only[apX]at h2;obtain⟨rfl,rfl⟩:=h2;exact(R0 h1).x
 case nilCheck x=>obtain⟨h1,h2⟩:=aG h;simp only[apX]at h2;obtain⟨rfl,rfl⟩:=h2;exact(Jo h1).x
 case binOp a b c d e=>obtain⟨l,h1,h2⟩:=map_some h;simp only[apX]at h2;obtain⟨rfl,rfl⟩:=h2;exact(Xa h1).x
 case unOp a b c=>obtain⟨l,h1,h2⟩:=map_some h;simp only[apX]at h2;obtain⟨rfl,rfl⟩:=h2;exact(aam h1).x
 case convert a b c=>exact(Uy h).x
 case makeSlice a b c=>obtain⟨⟨l1,l2,l3⟩,h1,h2⟩:=map_some h;simp only[apX]at h2;obtain⟨rfl,rfl⟩:=h2;exact(HF h1).x
 case slice a b c d e=>obtain⟨l,h1,h2⟩:=map_some h;simp only[apX]at h2;obtain⟨rfl,rfl⟩:=h2;exact(R1 h1).x
 case fieldAddr a b c=>obtain⟨l,h1,h2⟩:=map_some h;simp only[apX]at h2;obtain⟨rfl,rfl⟩:=h2;exact(HG h1).x
 case field a b c=>obtain⟨l,h1,h2⟩:=map_some h;simp only[apX]at h2;obtain⟨rfl,rfl⟩:=h2;exact(QX h1).x
 case indexAddr a b c=>obtain⟨l,h1,h2⟩:=map_some h;simp only[apX]at h2;obtain⟨rfl,rfl⟩:=h2;exact(HH h1).x
 case index a b c=>obtain⟨l,h1,h2⟩:=map_some h;simp only[apX]at h2;obtain⟨rfl,rfl⟩:=h2;exact(R2 h1).x
 case extract a b=>obtain⟨l,h1,h2⟩:=map_some h;simp only[apX]at h2;obtain⟨rfl,rfl⟩:=h2;exact(LU h1).x
 case call q=>
  split at h
  ·unfold Kw at h
   split at h
   ·rename_i hq
    split at h
    ·rename_i ha ht
     obtain⟨l,h1,h2⟩:=map_some h;simp only[apX]at h2;obtain⟨rfl,rfl⟩:=h2;exact(Xb hq ha ht h1).x
    ·cases h
   ·rename_i hq
    split at h
    ·rename_i ha ht Et
     split at h
     ·rename_i hc
      exact(Pj hq ha ht Et hc h).x
     ·cases h
    ·cases h
   ·rename_i hq
    split at h
    ·rename_i ha
     obtain⟨l,h1,h2⟩:=map_some h;simp only[apX]at h2;obtain⟨rfl,rfl⟩:=h2;exact(Eu (mx:=false) hq ha h1).x
    ·cases h
   ·rename_i hq
    split at h
    ·rename_i ha
     obtain⟨l,h1,h2⟩:=map_some h;simp only[apX]at h2;obtain⟨rfl,rfl⟩:=h2;exact(Eu (mx:=true) hq ha h1).x
    ·cases h
   ·cases h
  ·unfold VM at h
   split at h
   ·rename_i hq
    split at h
    ·rename_i hf
     split at h
     ·rename_i r hr
      obtain rfl:=apO h
      obtain⟨e,Nr,Kl,h⟩:=x4 hr
      split at h
      ·obtain⟨l,h1,h2⟩:=map_some h;simp only[apX]at h2;obtain⟨rfl,rfl⟩:=h2;exact GW hL.xh hq hf Nr Kl h1
      ·exact RR hL.xh hq hf Nr Kl h
     ·split at h
      ·rename_i t' ht
       obtain⟨l,h1,h2⟩:=map_some h;simp only[apX]at h2;obtain⟨rfl,rfl⟩:=h2
       exact GW (L:=[⟨_,_,[],t',[],0⟩]) (fun e he=>by obtain rfl:=aqn.1 he;exact hL.dyn _ _ _ ht) hq hf (aqn.2 rfl) rfl h1
      ·cases h
    ·cases h
   ·cases h
 all_goals cases h
def VN(P:Program)(L:Env)(F:List Fact)(E:SL)(R:List AR)(id:Nat)(op:Op):zR:=
 bif E.ex then(match VL P E R id op with
  |some r=>some r
  |none=>Pf P L F E R id op)else(match Pf P L F E R id op with
  |some r=>some r
  |none=>VL P E R id op)
theorem aan(hL:Env.Ok P L){op:Op}{t:T}{u:List (Nat×AR)}(h:VN P L F E R id op=some (t,u)):zQ P F E R id op t u:=by
 unfold VN at h
 cases hx:E.ex with
 |false=>
  rw[hx]at h
  simp only[cond_false]at h
  split at h
  ·rename_i r hr
   obtain rfl:=apO h
   exact Nw hL hr
  ·exact(RX h).x
 |true=>
  rw[hx]at h
  simp only[cond_true]at h
  split at h
  ·rename_i r hr
   obtain rfl:=apO h
   exact(RX hr).x
  ·exact Nw hL h
end
structure CE where
 x:Nat
 d:Nat
 w:Bool
 G:List Fact
def CE.Ok(θ:List Int)(S:SL)(s:List V)(e:CE):Prop:=
 (bL s e.d=.bool e.w∧Has θ (bN S e.x) (bL s e.x)∧aM θ e.G)∨(bL s e.d≠.bool e.w∧bL s e.x=dS)
def cc(M:List CE)(x:Nat):Option CE:=M.find? fun e=>Nat.beq e.x x
def wL(t:T)(w:Bool):List Fact:=
 match t with
 |.bool _ y n=>bif w then y else n
 |_=> []
def known(M:List CE)(S:SL):Nat→Nat→Bool→List (Nat×Bool)×List Fact
 |0,d,w=>([(d,w)],if(cc M d).isSome then[]else wL (bN S d) w)
 |n+1,d,w=>match cc M d with
  |none=>([(d,w)],wL (bN S d) w)
  |some e=>((d,w)::(known M S n e.d e.w).1,wL (bN S d) w++(e.G++(known M S n e.d e.w).2))
def vw(K:List (Nat×Bool))(d:Nat)(w:Bool):Bool:=K.any fun p=>Nat.beq p.1 d&&(p.2==w)
def resolve(M:List CE)(K:List (Nat×Bool))(S:SL):SL:=M.foldl (fun E e=>if vw K e.d e.w then E else eF E e.x .any) S
structure qc (θ : List Int) (S : SL) (M : List CE) (s : List V) : Prop where
 len:S.length=s.length
 pl: ∀(x:Nat),cc M x=none→Has θ (bN S x) (bL s x)
 ce: ∀e∈M,e.Ok θ S s
section
variable {P : Program} {L : Env} {θ : List Int} {F : List Fact} {S E : SL} {M : List CE} {R : List AR} {id : Nat} {s : List V} {rows : List Row}
theorem lg{x:Nat}{e:CE}(h:cc M x=some e):e∈M∧e.x=x:=⟨List.mem_of_find?_eq_some h,by simpa using List.find?_some h⟩
theorem BK{x:Nat}(h:cc M x=none): ∀e∈M,e.x≠x:=by
 intro e he hx
 have:=List.find?_eq_none.1 h e he
 simp[hx]at this
theorem x5{t:T}{w:Bool}(h:Has θ t (.bool w)):aM θ (wL t w):=by
 unfold wL
 split
 ·cases h with
  |bool p q r=>
   cases w
   ·exact r rfl
   ·exact q rfl
 ·exact cr
theorem KB(h:qc θ S M s): ∀(n d:Nat) (w:Bool),bL s d=.bool w→(∀p∈(known M S n d w).1,bL s p.1=.bool p.2)∧aM θ (known M S n d w).2:=by
 intro n
 induction n with
 |zero=>
  intro d w hd
  simp only[known]
  refine⟨fun p hp=>by obtain rfl:=aqn.1 hp;exact hd,?_⟩
  split
  ·exact cr
  ·rename_i hn
   have:=h.pl d (by simpa using hn)
   rw[hd]at this
   exact x5 this
 |succ n ih=>
  intro d w hd
  simp only[known]
  split
  ·rename_i hn
   have:=h.pl d hn
   rw[hd]at this
   exact⟨fun p hp=>by obtain rfl:=aqn.1 hp;exact hd,x5 this⟩
  ·rename_i e he
   obtain⟨hm,hx⟩:=lg he
   rcases h.ce e hm with⟨h1,h2,h3⟩|⟨h1,h2⟩
   ·obtain⟨k1,k2⟩:=ih e.d e.w h1
    rw[hx,hd]at h2
    refine⟨fun p hp=>?_,eE (x5 h2) (eE h3 k2)⟩
    rcases ap8.1 hp with rfl|hp
    ·exact hd
    ·exact k1 p hp
   ·rw[hx,hd]at h2
    simp[dS]at h2
theorem Xc{K:List (Nat×Bool)}(hK: ∀p∈K,bL s p.1=.bool p.2){d:Nat}{w:Bool}(h:vw K d w=true):bL s d=.bool w:=by
 obtain⟨p,hp,h1⟩:=List.any_eq_true.1 h
 simp only[apP,aqi,beq_iff_eq]at h1
 rw[←h1.1,←h1.2]
 exact hK p hp
theorem iF{l:List V}{i j:Nat}{v:V}:bL (sset l i v) j=if i=j∧i<l.length then v else bL l j:=by
 rw[gb,lf,gb,aqB]
 by_cases h:i=j
 ·subst h
  by_cases h2:i<l.length
  ·simp[h2]
  ·simp[h2,aql (ar1 h2)]
 ·simp[h]
theorem AU{S:SL}{s:List V}(hl:S.length=s.length)(h: ∀x,Has θ (bN S x) (bL s x)):j8 θ S s:=⟨hl,fun i hi=>by have:=h i;rwa[AL hi]at this⟩
theorem BT(K:List (Nat×Bool)): ∀(M:List CE) (S:SL),(resolve M K S).length=S.length
 |[],S=>rfl
 |e::M,S=>by
  show(resolve M K (if vw K e.d e.w then S else eF S e.x .any)).length=_
  rw[BT K M]
  split
  ·rfl
  ·exact jK
theorem vz(K:List (Nat×Bool)): ∀(M:List CE) (S:SL) (x:Nat),bN (resolve M K S) x=bN S x∨bN (resolve M K S) x=.any
 |[],S,x=>.inl rfl
 |e::M,S,x=>by
  show bN (resolve M K (if vw K e.d e.w then S else eF S e.x .any)) x=_∨bN (resolve M K (if vw K e.d e.w then S else eF S e.x .any)) x=_
  rcases vz K M (if vw K e.d e.w then S else eF S e.x .any) x with h|h
  ·rw[h]
   split
   ·exact .inl rfl
   ·rw[dL]
    split
    ·exact .inr rfl
    ·exact .inl rfl
  ·exact .inr h
theorem BU(K:List (Nat×Bool)): ∀(M:List CE) (S:SL) (x:Nat) (e:CE),e∈M→e.x=x→vw K e.d e.w=false→x<S.length→bN (resolve M K S) x=.any
 |e0::M,S,x,e,he,hx,hk,hl=>by
  show bN (resolve M K (if vw K e0.d e0.w then S else eF S e0.x .any)) x=_
  rcases ap8.1 he with rfl|he
  ·rcases vz K M (if vw K e.d e.w then S else eF S e.x .any) x with h|h
   ·rw[h,if_neg (by simp[hk]),dL,if_pos ⟨hx,by rw[hx];exact hl⟩]
   ·exact h
  ·refine BU K M _ x e he hx hk ?_
   split
   ·exact hl
   ·rw[jK];exact hl
theorem Pk(h:qc θ S M s){K:List (Nat×Bool)}(hK: ∀p∈K,bL s p.1=.bool p.2):j8 θ (resolve M K S) s:=by
 refine AU (by rw[BT];exact h.len) fun x=>?_
 rcases vz K M S x with h1|h1
 ·cases hf:cc M x with
  |none=>rw[h1];exact h.pl x hf
  |some e=>
   obtain⟨hm,hx⟩:=lg hf
   cases hk:vw K e.d e.w with
   |true=>
    rw[h1]
    rcases h.ce e hm with⟨_,h2,_⟩|⟨h2,_⟩
    ·rw[hx]at h2;exact h2
    ·exact absurd (Xc hK hk) h2
   |false=>
    rcases apQ x S.length with hl|hl
    ·rw[BU K M S x e hm hx hk hl];exact .any
    ·rw[h1,kK hl];exact .any
 ·rw[h1];exact .any
def VO(x:Operand):Option Nat:=
 match x with
 |.tmp t=>some t
 |_=>none
def Ev(P:Program)(L:Env)(F:List Fact)(S:SL)(M:List CE)(K:List (Nat×Bool))(R:List AR)(id:Nat)(op:Op):zR:=
 match op with
 |.pick c a b=>(match VO c with
  |some d=>(let ka:=known M S 6 d true;let kb:=known M S 6 d false
    HU (oT (resolve M K S) c) (oT (resolve M (ka.1++K) S) a) (oT (resolve M (kb.1++K) S) b)).map (·,[])
  |none=>(HU (oT (resolve M K S) c) (oT (resolve M K S) a) (oT (resolve M K S) b)).map (·,[]))
 |op=>VN P L F (resolve M K S) R id op
structure uO (θ : List Int) (F : List Fact) (S : SL) (M : List CE) (R : List AR) (s : List V) (rows : List Row) : Prop where
 zero:θ[0]?=some 0
 facts:aM θ F
 bO:qc θ S M s
 di:R.length=rows.length
 rows: ∀(i:Nat) a r,R[i]?=some a→rows[i]?=some r→cX θ a r
theorem uO.cx(h:uO θ F S M R s rows){K:List (Nat×Bool)}(hK: ∀p∈K,bL s p.1=.bool p.2):Cx θ F (resolve M K S) R s rows:=
 ⟨h.zero,h.facts,Pk h.bO hK,h.di,h.rows⟩
theorem KC(hL:Env.Ok P L){K:List (Nat×Bool)}{op:Op}{t:T}{u:List (Nat×AR)}(h:Ev P L F S M K R id op=some (t,u))(hO:uO θ F S M R s rows)(hK: ∀p∈K,bL s p.1=.bool p.2)(hf:dB rows id){k:KV}
  (hk: ∀v ad,Has θ t v→uF θ rows ad u→k v ad):qt P op id s rows k:=by
 have gen:VN P L F (resolve M K S) R id op=some (t,u)→qt P op id s rows k:=fun h=>aan hL h θ s rows k (hO.cx hK) hf hk
 cases op
 case pick c a b=>
  left
  simp only[Ev]at h
  simp only[bF]
  have h1:=bJ (hO.cx hK) c
  split at h
  ·rename_i d hd
   obtain⟨t',h2,h3⟩:=map_some h
   simp only[apX]at h3
   obtain⟨rfl,rfl⟩:=h3
   have hc:ax s c=bL s d:=by
    unfold VO at hd
    split at hd
    ·obtain rfl:=apO hd;rfl
    ·cases hd
   have side: ∀(w:Bool) (x:Operand),ax s c=.bool w→Has θ (oT (resolve M ((known M S 6 d w).1++K) S) x) (ax s x):=by
    intro w x e
    rw[hc]at e
    have:=(KB hO.bO 6 d w e).1
    exact bJ (hO.cx (K:=(known M S 6 d w).1++K) fun p hp=>(aqr.1 hp).elim (this p) (hK p)) x
   have:=Na h2 h1 (side true a) (side false b) (K:=fun v=>k v rows) fun v hv=>hk v rows hv ld
   exact this
  ·obtain⟨t',h2,h3⟩:=map_some h
   simp only[apX]at h3
   obtain⟨rfl,rfl⟩:=h3
   have:=Na h2 h1 (fun _=>bJ (hO.cx hK) a) (fun _=>bJ (hO.cx hK) b) (K:=fun v=>k v rows) fun v hv=>hk v rows hv ld
   exact this
 all_goals exact gen h
inductive Out where
 |none
 |yes (t:T) (u:List (Nat×AR))
 |may (t:T) (d:Nat) (w:Bool) (G:List Fact)
 |no
def stepT(P:Program)(L:Env)(F:List Fact)(ops:Array Oper)(S:SL)(M:List CE)(R:List AR)(id:Nat)(o:Oper):Out:=
 match o.guard with
 |.none=>(match Ev P L F S M [] R id o.op with
  |some (t,u)=>.yes t u
  |.none=>.none)
 |some (j,want)=>(match(ops[j]?).bind (·.dst)with
  |some d=>(match cc M d,bN S d with
   |.none,.bool (some b) _ _=>if b=want then(match Ev P L F S M [(d,b)] R id o.op with
     |some (t,u)=>.yes t u
     |.none=>.none)else .no
   |_,.undef=>.no
   |_,.bool _ _ _=>(let k:=known M S 6 d want;match Ev P L (k.2++F) S M k.1 R id o.op with
     |some (t,[])=>.may t d want k.2
     |_=>.none)
   |_,_=>.none)
  |.none=>.none)
theorem JN(hL:Env.Ok P L){ops:Array Oper}{o:Oper}(hO:uO θ F S M R s rows)(hf:dB rows id):
  match stepT P L F ops S M R id o with
  |.none=>True
  |.yes t u=>ev ops o.guard s=some true∧ ∀k:KV,(∀v ad,Has θ t v→uF θ rows ad u→k v ad)→qt P o.op id s rows k
  |.may t d w G=>(ev ops o.guard s=some true∧bL s d=.bool w∧aM θ G∧ ∀k:KV,(∀v ad,Has θ t v→uF θ rows ad []→k v ad)→qt P o.op id s rows k)∨(ev ops o.guard s=some false∧bL s d≠.bool w)
  |.no=>ev ops o.guard s=some false:=by
 unfold stepT
 cases hg:o.guard with
 |none=>
  cases hm:Ev P L F S M [] R id o.op with
  |none=>trivial
  |some p=>exact⟨by simp[ev],fun k hk=>KC hL hm hO (fun p hp=>by simp at hp) hf hk⟩
 |some p=>
  obtain⟨j,want⟩:=p
  cases hd:(ops[j]?).bind (·.dst)with
  |none=>simp only[hd]
  |some d=>
   simp only[hd]
   have gv: ∀{b:Bool},bL s d=.bool b→ev ops (some (j,want)) s=some (b==want):=fun{b} hb=>by simp[ev,hd,hb]
   have may: ∀{ob:Option Bool} {y n:List Fact},bN S d=.bool ob y n→match(match Ev P L ((known M S 6 d want).2++F) S M (known M S 6 d want).1 R id o.op with
     |some (t,[])=>Out.may t d want (known M S 6 d want).2
     |_=>.none)with
    |.none=>True
    |.yes t u=>ev ops (some (j,want)) s=some true∧ ∀k:KV,(∀v ad,Has θ t v→uF θ rows ad u→k v ad)→qt P o.op id s rows k
    |.may t d w G=>(ev ops (some (j,want)) s=some true∧bL s d=.bool w∧aM θ G∧ ∀k:KV,(∀v ad,Has θ t v→uF θ rows ad []→k v ad)→qt P o.op id s rows k)∨(ev ops (some (j,want)) s=some false∧bL s d≠.bool w)
    |.no=>ev ops (some (j,want)) s=some false:=by
    intro ob y n ht
    cases hm:Ev P L ((known M S 6 d want).2++F) S M (known M S 6 d want).1 R id o.op with
    |none=>trivial
    |some p=>
     obtain⟨t,u⟩:=p
     cases u with
     |cons a u=>trivial
     |nil=>
      have Ew:(∃b,bL s d=.bool b)∨bL s d=dS:=by
       cases Ey:cc M d with
       |none=>
        have hb:=hO.bO.pl d Ey
        rw[ht]at hb
        generalize bL s d=x at hb
        cases hb
        exact .inl ⟨_,rfl⟩
       |some e=>
        obtain⟨he,hx⟩:=lg Ey
        rcases hO.bO.ce e he with⟨_,hb,_⟩|⟨_,hb⟩
        ·rw[hx,ht]at hb
         generalize bL s d=x at hb
         cases hb
         exact .inl ⟨_,rfl⟩
        ·rw[hx]at hb;exact .inr hb
      rcases Ew with⟨b,hb⟩|hb
      ·by_cases e:b=want
       ·subst e
        obtain⟨k1,k2⟩:=KB hO.bO 6 d b hb
        exact .inl ⟨by rw[gv hb];simp,hb,k2,fun k hk=>KC hL hm {hO with facts:=eE k2 hO.facts} k1 hf hk⟩
       ·exact .inr ⟨by rw[gv hb];simp[e],by rw[hb];simp[e]⟩
      ·exact .inr ⟨by simp[ev,hd,hb,dS],by rw[hb];simp[dS]⟩
   cases ht:bN S d with
   |bool ob y n=>
    cases Ey:cc M d with
    |some e=>cases ob<;>exact may ht
    |none=>
     cases ob with
     |none=>exact may ht
     |some b=>
      have hb:=hO.bO.pl d Ey
      rw[ht]at hb
      generalize hx:bL s d=x at hb
      cases hb with
      |@bool _ _ _ b' p _ _=>
       obtain rfl:=p _ rfl
       by_cases e:b'=want
       ·simp only[e,if_true]
        cases hm:Ev P L F S M [(d,want)] R id o.op with
        |none=>trivial
        |some p=>exact⟨by rw[gv hx];simp[e],fun k hk=>KC hL hm hO (fun p hp=>by
         obtain rfl:=aqn.1 hp
         rw[hx,e]) hf hk⟩
       ·simp only[if_neg e]
        rw[gv hx]
        simp[e]
   |undef=>
    have hu:bL s d=dS:=by
     cases Ey:cc M d with
     |none=>
      have hb:=hO.bO.pl d Ey
      rw[ht]at hb
      generalize bL s d=x at hb
      cases hb
      rfl
     |some e=>
      obtain⟨he,hx⟩:=lg Ey
      rcases hO.bO.ce e he with⟨_,hb,_⟩|⟨_,hb⟩
      ·rw[hx,ht]at hb
       generalize bL s d=x at hb
       cases hb
       rfl
      ·rw[hx]at hb;exact hb
    have:ev ops (some (j,want)) s=some false:=by simp[ev,hd,hu,dS]
    cases cc M d<;>exact this
   |_=>cases cc M d<;>trivial
def jF(P:Program)(ops:Array Oper):List Oper→List V→List Row→KS→Prop
 |[],s,rows,K=>K s rows
 |o::os,s,rows,K=>(ev ops o.guard s=some true∧qt P o.op rows.length s rows fun v ad=>jF P ops os (aD s o.dst v) ad K)∨(ev ops o.guard s=some false∧jF P ops os (aD s o.dst dS) rows K)
theorem BV{ops:Array Oper}{K:KS}{Q:Exit→KS}: ∀(is:List Nat) (os:List Oper),is.length=os.length→(∀(t:Nat) i o,is[t]?=some i→os[t]?=some o→ops[i]?=some o)→ ∀(s:List V) (rows:List Row) (c:Ctx) (a:Act) (w:World),iL P c→
  jF P ops os s rows K→gj c s rows a w→wpOpsIn (fw rd) 0 P ops (lift c (cZ K Q)) is a w
 |[],[],_,_,s,rows,c,a,w,_,h,hc=>⟨s,rows,h,hc⟩
 |[],_::_,hl,_,_,_,_,_,_,_,_,_=>by simp at hl
 |_::_,[],hl,_,_,_,_,_,_,_,_,_=>by simp at hl
 |i::is,o::os,hl,ho,s,rows,c,a,w,go,h,hc=>by
  obtain⟨ro,ρ,g,hs⟩:=hc
  have vK:ops[i]?=some o:=ho 0 i o rfl rfl
  have ih:=fun s rows a w (h:jF P ops os s rows K) hc=>BV (Q:=Q) is os (by simpa using hl) (fun t i o h1 h2=>ho (t+1) i o (by simpa using h1) (by simpa using h2)) s rows c a w go h hc
  rw[wpOpsIn_cons]
  unfold wpOpIn
  simp only[vK]
  simp only[jF]at h
  rcases h with⟨hg,h⟩|⟨hg,h⟩
  ·have hw:=gG (o:=o) hs hg
   rw[if_pos hw]
   refine CI (c:=c) go hs g h ?_
   intro v w' r ad aY ρ' h1 h2 h3
   exact ih _ _ _ _ h1 ⟨aY,ρ',h2,h3⟩
  ·have hw:=gG (o:=o) hs hg
   rw[if_neg (by simp[hw])]
   exact⟨fun _ _=>trivial,ih _ _ _ _ h ⟨ro,ρ,g,hs.put .val o.dst⟩⟩
theorem L0{n0 id:Nat}{ops:Array Oper}{Q:Exit→KS}(h:jF P ops ops.toList s rows (Q .normal)):aS P n0 (.region id ops false) Q s rows:=by
 intro c a w hn hc rd ju
 have:=BV (rd:=rd) (P:=P) (Q:=Q) (K:=Q .normal) (List.range ops.size) ops.toList (by simp) (fun t i o h1 h2=>by
  have aO:=(apN.1 h1).1
  simp at aO
  rw[aqK aO]at h1
  simp at h1
  subst h1
  simpa using h2) s rows c a w hn.2 h hc
 refine wpIn_mono (wpIn_region this) ?_
 rintro e a' w' ⟨s',ad,hQ,c8⟩
 cases e<;>exact⟨s',ad,hQ,c8⟩
def jM(S:SL)(dst:Option Tmp)(t:T):SL:=
 match dst with
 |some d=>eF S d t
 |none=>S
def AP(M:List CE)(dst:Option Tmp):Bool:=
 match dst with
 |some d=>M.all fun e=>!Nat.beq e.d d
 |none=>true
def lx(M:List CE)(dst:Option Tmp):List CE:=
 match M with
 |[]=> []
 |M=>(match dst with
  |some d=>M.filter fun e=>!Nat.beq e.x d
  |none=>M)
def rf(M:List CE)(dst:Option Tmp)(d:Nat)(w:Bool)(G:List Fact):List CE:=
 match dst with
 |some x=>⟨x,d,w,G⟩::M
 |none=>M
theorem tA(M:List CE)(d:Nat):lx M (some d)=M.filter fun e=>!Nat.beq e.x d:=by cases M<;>rfl
theorem pd(M:List CE):lx M none=M:=by cases M<;>rfl
theorem Fq{a b:Nat}(h:a≠b):Nat.beq a b=false:=by
 cases hb:Nat.beq a b with
 |false=>rfl
 |true=>exact absurd (ap9 hb) h
theorem wz{a b:Nat}(h:Nat.beq a b=false):a≠b:=by
 rintro rfl
 rw[Nat.beq_refl]at h
 cases h
theorem vp{x d:Nat}(h:x≠d): ∀(M:List CE),cc (M.filter fun e=>!Nat.beq e.x d) x=cc M x
 |[]=>rfl
 |e::M=>by
  have ih:=vp h M
  unfold cc at ih⊢
  by_cases he:e.x=d
  ·have:(!Nat.beq e.x d)=false:=by simp[he]
   rw[List.filter_cons_of_neg (by simp[this]),ih]
   have h2:Nat.beq e.x x=false:=Fq (by rw[he];exact Ne.symm h)
   rw[arw,h2]
  ·have:(!Nat.beq e.x d)=true:=by rw[Fq he];rfl
   rw[List.filter_cons_of_pos (by simp[this]),arw,arw,ih]
theorem AV(h:qc θ S M s){dst:Option Tmp}(hd:AP M dst=true){t:T}{v:V}(hv:Has θ t v):qc θ (jM S dst t) (lx M dst) (aD s dst v):=by
 cases dst with
 |none=>rw[pd];exact h
 |some d=>
  rw[tA]
  simp only[AP,ap1,aqC]at hd
  refine⟨by simp only[jM,aD];rw[jK,lf,arO];exact h.len,fun x hx=>?_,fun e he=>?_⟩
  ·simp only[jM,aD]
   rw[dL,iF,←h.len]
   by_cases Nf:d=x
   ·subst Nf
    split
    ·exact hv
    ·rename_i hn
     rcases apQ d S.length with hl|hl
     ·exact absurd ⟨rfl,hl⟩ hn
     ·rw[kK hl]
      exact .any
   ·rw[if_neg fun e=>Nf e.1,if_neg fun e=>Nf e.1]
    exact h.pl x (by rw[←hx];exact(vp (Ne.symm Nf) M).symm)
  ·obtain⟨he1,he2⟩:=aqW.1 he
   have hx:e.x≠d:=wz (by simpa using he2)
   have RF:e.d≠d:=wz (by simpa using hd e he1)
   have:=h.ce e he1
   unfold CE.Ok at this⊢
   simp only[jM,aD]
   rw[dL,iF,iF,if_neg fun e=>RF e.1.symm,if_neg fun e=>hx e.1.symm,if_neg fun e=>hx e.1.symm]
   exact this
theorem Ni(h:qc θ S M s){dst:Option Tmp}(hd:AP M dst=true){t:T}{d:Nat}{w:Bool}{G:List Fact}{v:V}(bw:dst≠some d)(aO: ∀x,dst=some x→x<S.length)
  (hv:(bL s d=.bool w∧Has θ t v∧aM θ G)∨(bL s d≠.bool w∧v=dS)):qc θ (jM S dst t) (rf (lx M dst) dst d w G) (aD s dst v):=by
 cases dst with
 |none=>simp only[rf];rw[pd];exact h
 |some x=>
  have h1:=AV h hd (t:=.any) (v:=v) .any
  have hx:x≠d:=fun e=>bw (by rw[e])
  have MJ:=aO x rfl
  have same: ∀y,y≠x→bN (jM S (some x) t) y=bN (jM S (some x) .any) y:=fun y hy=>by
   simp only[jM]
   rw[dL,dL,if_neg fun e=>hy e.1.symm,if_neg fun e=>hy e.1.symm]
  refine⟨by have:=h1.len;simp only[jM]at this⊢;rw[jK]at this⊢;exact this,fun y hy=>?_,fun e he=>?_⟩
  ·simp only[rf]at hy
   have hyx:y≠x:=fun e=>by subst e;simp[cc]at hy
   rw[same y hyx]
   refine h1.pl y ?_
   unfold cc at hy⊢
   rw[arw]at hy
   have:Nat.beq x y=false:=Fq (Ne.symm hyx)
   rw[this]at hy
   exact hy
  ·simp only[rf]at he
   rcases ap8.1 he with rfl|he
   ·unfold CE.Ok
    simp only[jM,aD]
    rw[dL,iF,iF,if_neg fun e=>hx e.1,if_pos ⟨rfl,MJ⟩,if_pos ⟨rfl,by rw[←h.len];exact MJ⟩]
    rcases hv with⟨a,b,c⟩|⟨a,b⟩
    ·exact .inl ⟨a,b,c⟩
    ·exact .inr ⟨a,b⟩
   ·have hex:e.x≠x:=by
     rw[tA]at he
     exact wz (by simpa using(aqW.1 he).2)
    have:=h1.ce e he
    unfold CE.Ok at this⊢
    rw[same e.x hex]
    exact this
def re(R:List AR)(u:List (Nat×AR)):List AR:=u.foldl (fun R p=>da R p.1 p.2) R
def Rf(u:List (Nat×AR)):Bool:=nodupB (u.map (·.1))
theorem xH: ∀(u:List (Nat×AR)) (R:List AR) (j:Nat),(∀p∈u,p.1≤R.length)→(u.map (·.1)).Nodup→(∀a,(j,a)∈u→(re R u)[j]?=some a)∧((∀a,(j,a)∉u)→(re R u)[j]?=R[j]?)∧R.length≤(re R u).length
 |[],R,j,_,_=>⟨fun a h=>by simp at h,fun _=>rfl,aqf _⟩
 |(i,b)::u,R,j,hle,j4=>by
  simp only[aqt,List.nodup_cons]at j4
  have hi:i≤R.length:=hle (i,b) (by simp)
  have hlen:R.length≤(da R i b).length:=by rw[iE];split<;>omega
  obtain⟨h1,h2,h3⟩:=xH u (da R i b) j (fun p hp=>aqD (hle p (by simp[hp])) hlen) j4.2
  have e:re R ((i,b)::u)=re (da R i b) u:=rfl
  rw[e]
  refine⟨fun a ha=>?_,fun hn=>?_,aqD hlen h3⟩
  ·rcases ap8.1 ha with ha|ha
   ·obtain⟨rfl,rfl⟩:=aq7 ha
    rw[h2 fun a ha=>j4.1 (aqd.2 ⟨_,ha,rfl⟩),bH hi,if_pos rfl]
   ·exact h1 a ha
  ·rw[h2 fun a ha=>hn a (by simp[ha]),bH hi,if_neg]
   rintro rfl
   exact hn b (by simp)
end
end
end Go.Ck
