/-
 VALUE SEMANTICS, 30: contracts of Go's library (the kit's shelf) as contracts of this layer; a law whose row lists variables.
 Conditions: none.
-/
import Derived.LaidLaws
import Derived.Shelf.Vars
import Derived.Test.YtjlnoogcggdhkaaGreatDoorGi
set_option linter.all false
namespace Go.VS
open Go.ChangeShapes Go.WideShapes Go.RowKit
section
variable {P : Program} {f : FuncId} {args : List V} {r : V}
theorem mn(he:Enters P f)(hp:r.Pure)
  (h: ∀(w:World) (ro:Nat→Prop) (ρ:bP) (vs:Array Value),iL P ⟨w,ro,ρ⟩→bh w ro ρ vs.toList args→
   Calls P f vs w fun e w'=>(w'.os=w.os∧w'.tape=w.tape∧w'.output=w.output∧w'.heap=w.heap)∧ ∃v,e=.returned v∧ ∀ro ρ,Rd w' ro ρ v r):ao P f args r:=by
 refine⟨hp,he,fun w ro ρ vs g go ha=>(h w ro ρ vs go ha).mono ?_⟩
 rintro e w' ⟨⟨h1,h2,h3,h4⟩,v,rfl,hr⟩
 obtain⟨g',-⟩:=g.world (w':=w') h1 h2 h3 (by rw[h4];exact aqf _) fun b _ _=>by rw[h4]
 exact⟨v,r,[],ro,ρ,rfl,rfl,g',hr ro ρ⟩
theorem LR(he:Enters P f)(hp:r.Pure)
  (h: ∀(w:World) (ro:Nat→Prop) (ρ:bP) (vs:Array Value),iL P ⟨w,ro,ρ⟩→bh w ro ρ vs.toList args→
   Calls P f vs w fun e w'=>(∃o,w'=w.alloc o)∧ ∃v,e=.returned v∧ ∀(aY:Nat→Prop) ρ,aY w.heap.size→Rd w' aY ρ v r):ao P f args r:=by
 refine⟨hp,he,fun w ro ρ vs g go ha=>(h w ro ρ vs go ha).mono ?_⟩
 rintro e w' ⟨⟨o,rfl⟩,v,rfl,hr⟩
 obtain⟨g1,e1⟩:=g.push o
 have pf: ∀b,¬(Ctx.may ⟨w,ro,ρ⟩ b):=fun b ⟨id,x,h,_⟩=>by
  have:ρ=[]:=apW g.len
  subst this
  simp at h
 have kc:ρ=[]:=apW g.len
 subst kc
 obtain⟨g2,e2⟩:=g1.Rp (aY:=fun b=>ro b∨b=w.heap.size) (fun b hb=>.inl hb) (fun b hb=>by
  rcases hb with hb|rfl
  ·exact .inl hb
  ·exact .inr ⟨by simp,fun id x h=>by simp at h,.inr (aqf _)⟩)
 exact⟨v,r,[],_,[],rfl,rfl,g2,hr _ _ (.inr rfl)⟩
end
theorem gok_shaped{P:Program}{W:World}{g:Nat}{t:TypeId}{zero:Array Value}(h:W.ShapedOpen P)(hn:P.globalNamed "internal/bytealg.MaxLen"=some g)(hg:g<P.globals.size)
  (h0:((begin P (fun _ _=>0) default).world.heap[g]?).bind Obj.row?=some (zero,t)) (hz:zero.size=1)
  (hb:P.buildable t=true) (hc:P.cellTypes P.depth t=some [t]) (hu:P.underlying t=some (.int .i64)):iL P ⟨W,fun b=>b<W.heap.size,[]⟩:=by
 intro k hk
 rw[hn]at hk
 obtain rfl:=apO hk
 obtain⟨m,hm⟩:=Go.Proofs.cell_of_shapedOpen_int h hg h0 hz hb hc hu
 refine⟨?_,m,hm⟩
 show _<W.heap.size
 unfold World.cell? at hm
 cases hw:W.heap[(⟨g,0,none⟩:Addr).block]? with
 |none=>rw[hw]at hm;simp at hm
 |some o=>exact(ap4.1 hw).1
theorem law_laid{C:Checked}{f:FuncId}{fn:Func}{s:ChangeSpec}{conds:List PathCond}{K:Nat}{tb:TypeId}{laid:List (String×DataW Unit)}(own:ownKnob C.prog.godebug=none)(hl:laidOutB C.prog=true)(Ij:C.prog.inits.idxOf? f=none)
  (hfn:C.prog.funcs[f]?=some fn) (wW:s.vars=[]) (NN: ∀(H:Type) (ds:List (DataW H)),ds.length=fn.params.toList.length→s.fn H ds={results:=[.lit (.bool true)],args:=ds})
  (gD:fn.resultTypes=#[tb]) (XZ:C.prog.underlying tb=some .bool) (eR:(fn.params.toList.all fun t=>plain C.prog K t&&C.prog.readableRec t&&decide (t<C.prog.types.size))=true)
  (F3: ∀W:World,W.ShapedOpen C.prog→iL C.prog ⟨W,fun b=>b<W.heap.size,[]⟩)
  (call: ∀xs,oe C.prog K fn.params.toList xs→ao C.prog f xs (.bool true)) (os:Os) (started:os.Started) (H:Type) (enc:TypeId×Value→H)
  (witness: ∃(w:World) (tape:Tape) (i:Input),w.os=os∧(w.forCall tape i).Shaped C.prog∧i.vars=[]∧Input.okWide C.prog (w.forCall tape i) .any w.heap.size f i∧
   ((s.pre enc C.prog fn conds false (w.forCall tape i).memory i.args∧laidMetH C.prog laid (w.forCall tape i).memory)∧sizedMet enc C.prog fn (OpenSpec.ofChange s) false (w.forCall tape i).memory i.args)∧({}:Assume).holds C.prog (lone (Frame.enter C.prog f i.args .normal) [] (w.forCall tape i))):
  ReturnsInHanded {} C os f .any (fun w args=>(s.pre enc C.prog fn conds false w args∧laidMetH C.prog laid w)∧sizedMet enc C.prog fn (OpenSpec.ofChange s) false w args) (s.post enc C.prog fn false true false false):=by
 refine returnsInHanded_of_calls own started Ij witness ?_
 intro w tape i _ nE _ dN jk X1
 obtain⟨_,_,_,VD,afT,_,_,_,_,S7⟩:=dN
 have e:VD=fn:=apO (afT.symm.trans hfn)
 subst e
 obtain⟨⟨⟨ds,gs,before,hw,ab⟩,hx⟩,hz⟩:=jk
 have hW:=DataW.Whole.of_heap (w':=w.forCall tape i) (by rfl) hw
 have cm:=hz.weights hw
 generalize w.forCall tape i=W at*
 generalize i.args=args at*
 clear hw
 suffices hs:Calls C.prog f args W fun e W'=> ∃v,e=.returned v∧s.post enc C.prog VD false true false false W args v W' by
  refine hs.mono fun e W' ⟨v,he,hp⟩=>?_
  subst he
  exact ChangeSpec.post_blind hp
 have Ik:=hW
 obtain⟨p,q,hA,hV,rfl,P9,j4⟩:=hW
 rw[wW]at hV
 obtain⟨rfl,rfl⟩:=trodVars_none hV
 simp only[aqp]at Ik cm P9
 have Il: ∀t∈VD.params.toList,plain C.prog K t=true∧C.prog.readableRec t=true∧t<C.prog.types.size:=by
  intro t ht
  have:=ap1.1 eR t ht
  simp only[apP,decide_eq_true_eq]at this
  exact⟨this.1.1,this.1.2,this.2⟩
 have X2:s.plain.varTypes C.prog=[]:=by simp[DataSpec.varTypes,ChangeSpec.plain,wW]
 have afU:(OpenSpec.ofChange s).bare.plain.varTypes C.prog=[]:=X2
 rw[afU,aqp]at cm
 have X3: ∀n∈DataW.weightsEach C.prog VD.params.toList ds,n≤reachBytes:=fun n hn=>by simpa using ap1.1 cm n hn
 obtain⟨xs,MD,yD⟩:=trodAll_fits (fun t ht=>(Il t ht).1) (fun j t v h1 h2=>S7 j t v (by simpa using h1) (by simpa using h2)) hA X3
 refine((call xs yD).below (w:=W) (vs:=args) MD (F3 W nE)).mono ?_
 rintro e W' ⟨rfl,hb⟩
 have aO: ∀x∈p,x.block<W.heap.size:=fun x hx=>Ik.lt x hx
 have fB:=NN H ds (vd hA)
 have hold: ∀x∈p,decide (x.block<W.heap.size)=true:=fun x hx=>by simpa using aO x hx
 refine⟨_,rfl,ds,[],p,[],p,[],Ik,?_,?_,?_,World.keptBut_mono (fun x hx=>⟨hx,.inr (by simpa using hx)⟩) (hb.frame (· ∈p)),fun h=>by cases h⟩
 ·rw[gD]
  simp only[aqp]
  rw[fB]
  exact trodAll_cons_mk (shut_bool XZ _) trodAll_mk0
 ·simp only[aqp]
  rw[fB]
  exact qX hl (fun t ht=>(Il t ht).2) hA (fun x hx=>hb.same (aO x hx)) hold
 ·simp only[aqp]
  rw[fB,wW]
  rfl
end Go.VS
set_option linter.all false
namespace Go.VS
variable {rd : Option Nat} {b0 : Nat}
section
variable {P : Program} {ops : Array Oper} {F : List (Nat × Nat × V)} {mk : Nat → Nat} {bl : Nat → Nat} {K : KS}
theorem JW{f:FuncId}{args:List V}{rows:List Row}{k:KV}{id:Nat}(gD:rows[id]?=some .bu)(h:oR P f args rows k):
  ∃v r,k v r∧r[id]?=some .bu∧ ∀cs (k2:KV),k2 v (r.set id (.live cs))→oR P f args (rows.set id (.live cs)) k2:=by
 obtain⟨m,gY,fk,r1,eU,r,ad,h1,h2,h3,h4,h5,h6,h7⟩:=h
 have aO:id<rows.length:=(apN.1 gD).1
 have hm:id∉m:=by
  intro hm
  obtain⟨j,hj⟩:=List.getElem?_of_mem hm
  have hl:=h2.len
  have sL:j<m.length:=(apN.1 hj).1
  obtain⟨r',jU⟩:=aC (l:=fk) (i:=j) (by rw[hl];simpa[-aU,-bB,-bx]using sL)
  obtain⟨q,hq,mS⟩:=h2.eW j id r' (by simp[-aU,-bB,-bx,hj]) jU
  rw[gD]at hq
  obtain rfl:=apO hq
  cases r' with
  |bu=>exact mS
  |dead=>exact mS.1 rfl
  |live _=>exact mS
 have hk:=h5.fg id aO hm
 refine⟨r,ad,h7,by rw[hk,gD],fun cs k2 nA=>⟨m,gY,fk,r1,eU,r,_,h1,⟨h2.len,h2.inj,fun j i r' hj jU=>?_,h2.new⟩,h3,h4,⟨h5.le,by simpa[-aU,-bB,-bx]using h5.len,fun j i r1' hj lD=>?_,fun i hi jX=>?_⟩,by simpa[-aU,-bB,-bx]using h6,nA⟩⟩
 ·obtain⟨q,hq,mS⟩:=h2.eW j i r' hj jU
  refine⟨q,?_,mS⟩
  have:id≠i:=by
   rintro rfl
   rw[apZ]at hj
   cases hx:m[j]? with
   |none=>rw[hx]at hj;simp[-aU,-bB,-bx]at hj
   |some x=>rw[hx]at hj;simp[-aU,-bB,-bx]at hj;subst hj;exact hm (aqg hx)
  rw[ap6 this]
  exact hq
 ·rw[arO]at hj⊢
  obtain⟨q,hq,mS⟩:=h5.dM j i r1' hj lD
  refine⟨q,?_,mS⟩
  have:id≠i:=by
   rintro rfl
   rw[oS]at hj
   split at hj
   ·cases hx:m[j]? with
    |none=>rw[hx]at hj;simp[-aU,-bB,-bx]at hj
    |some x=>rw[hx]at hj;simp[-aU,-bB,-bx]at hj;subst hj;exact hm (aqg hx)
   ·split at hj
    ·simp[-aU,-bB,-bx]at hj;omega
    ·simp[-aU,-bB,-bx]at hj
  rw[ap6 this]
  exact hq
 ·rw[arO]at hi
  by_cases hid:id=i
  ·subst hid
   have hl:=h5.len
   rw[aq5 aO,aq5 (by omega)]
  ·rw[ap6 hid,ap6 hid]
   exact h5.fg i hi jX
theorem L1{op:Op}{s:List V}{rows:List Row}{k:KV}{id:Nat}(gD:rows[id]?=some .bu)(h:bx P op s rows k):
  ∃v r,k v r∧r[id]?=some .bu∧ ∀cs (k2:KV),k2 v (r.set id (.live cs))→bx P op s (rows.set id (.live cs)) k2:=by
 unfold bx at h⊢
 split at h
 ·split at h
  ·split at h
   ·exact JW gD h
   ·exact h.elim
  ·exact h.elim
 ·exact h.elim
theorem OT{op:Op}{s:List V}{rows ri:List Row}{vi:V}{id:Nat}(aO:id<rows.length)(fR:ri[id]?=some .bu)(h:bx P op s rows fun v r=>v=vi∧r=ri):rows[id]?=some .bu:=by
 unfold bx at h
 split at h
 ·split at h
  ·split at h
   ·obtain⟨m,gY,fk,r1,eU,r,ad,h1,h2,h3,h4,h5,h6,rfl,rfl⟩:=h
    by_cases hm:id∈m
    ·exfalso
     obtain⟨j,hj⟩:=List.getElem?_of_mem hm
     have sL:j<m.length:=(apN.1 hj).1
     have hle:=h5.le
     obtain⟨q1,yN⟩:=aC (l:=eU) (i:=j) (by omega)
     obtain⟨q,hq,mS⟩:=h5.dM j id q1 (by rw[oS,if_pos sL,hj];rfl) yN
     rw[fR]at hq
     obtain rfl:=apO hq
     cases q1 with
     |bu=>exact mS
     |dead=>exact mS.1 rfl
     |live _=>exact mS
    ·rw[←h5.fg id aO hm,fR]
   ·exact h.elim
  ·exact h.elim
 ·exact h.elim
def isApp:Op→Bool
 |.call c=>(match c.callee with
  |.builtin .append=>true
  |_=>false)
 |_=>false
def JX(m:Nat)(op:Op):Bool:=m==2||(m==0&&isApp op)
theorem zB{rows:List Row}{id:Nat}{cs:List V}(hF:bW F rows)(h:rows[id]?=some .bu):bW F (rows.set id (.live cs)):=by
 intro p hp
 obtain⟨iy,q1,q2⟩:=hF p hp
 refine⟨iy,?_,q2⟩
 rw[ap6]
 ·exact q1
 ·rintro e;rw[←e,h]at q1;cases q1
theorem L3{sz:Nat}{x:V}{rows:List Row}{K:Nat→List V→Prop}(h:gT sz x rows K):
  ∃m new,True∧(∀(cs:List V) {id:Nat} (K2:Nat→List V→Prop),rows[id]?=some .bu→K2 m new→gT sz x (rows.set id (.live cs)) K2)∧K m new:=by
 cases x with
 |aj=>exact⟨0,[],trivial,fun cs id K2 hr hk=>hk,h⟩
 |sl n cs=>exact⟨n,cs,trivial,fun _ id K2 hr hk=>⟨h.1,hk⟩,h.2⟩
 |av fi off n cG=>
  obtain⟨h1,cs,h2,h3,h4⟩:=h
  refine⟨n,_,trivial,fun iy id K2 hr hk=>⟨h1,cs,?_,h3,hk⟩,h4⟩
  rw[ap6]
  ·exact h2
  ·rintro rfl;rw[h2]at hr;cases hr
 |str s=>exact⟨_,_,trivial,fun cs id K2 hr hk=>⟨h.1,hk⟩,h.2⟩
 |val v=>exact⟨0,[],trivial,fun cs id K2 hr hk=>⟨h.1,hk⟩,h.2⟩
 |_=>exact h.elim
theorem L4{op:Op}{m id:Nat}{s:List V}{rows ri:List Row}{vi:V}{mN:Nat}(hf:JX m op=true)(hid:cJ P op=true→id<rows.length)(h:cp P F m op id s rows fun v r=>v=vi∧r=ri)(aO:mN<rows.length)(fR:ri[mN]?=some .bu):
  rows[mN]?=some .bu∧ ∀cs (k2:KV),k2 vi (ri.set mN (.live cs))→cp P F m op id s (rows.set mN (.live cs)) k2:=by
 unfold JX at hf
 rcases aqe _ _▸hf with hf|hf
 ·obtain rfl:m=2:=by simpa[-aU,-bB,-bx]using hf
  have h:=kN.1 h
  obtain⟨v,r,⟨hF,rfl,rfl⟩,-,h1⟩:=qF h
  have gD:=OT aO fR (h1 (fun v' r'=>v'=v∧r'=r) ⟨rfl,rfl⟩)
  refine⟨gD,fun cs k2 hk=>?_⟩
  obtain⟨vi',ri',⟨rfl,rfl⟩,-,rU⟩:=L1 gD (h1 (fun v' r'=>v'=v∧r'=r) ⟨rfl,rfl⟩)
  exact kN.2 (rU cs _ ⟨zB hF fR,hk⟩)
 ·simp only[apP,beq_iff_eq]at hf
  obtain⟨rfl,hf⟩:=hf
  cases op with
  |call c=>
   have hc:c.callee=.builtin .append:=by
    unfold isApp at hf
    dsimp only at hf
    split at hf
    ·assumption
    ·cases hf
   have lZ:=hid (by simp[-aU,-bB,-bx,cJ,hc])
   have h:=df.1 h
   simp only[bF,hc]at h
   have acf: ∀(ad:List Row) (k2:KV),cp P F 0 (.call c) id s ad k2↔ic P .append c.argTypes (c.args.toList.map (ax s)) id ad fun v r=>(dA (.call c)=3→bW F r)∧k2 v r:=by
    intro ad k2
    rw[df]
    simp only[bF,hc]
   simp only[acf]
   generalize c.args.toList.map (ax s)=args at*
   match args,h with
   |[a,x],h=>
    simp only[ic]at h⊢
    obtain⟨t,t',h1,h2,h3,e,sz,db,z,g1,g2,g3,g4,g5,h⟩:=h
    obtain⟨m,new,-,hk,qf,h⟩:=L3 h
    cases a with
    |aj=>
     obtain⟨q1,q2,q3,hF,rfl,rfl⟩:=h
     have bw:mN≠id:=by
      rintro rfl
      rw[bH (aqx lZ),if_pos rfl]at fR
      cases fR
     rw[bH (aqx lZ),if_neg bw]at fR
     refine⟨fR,fun cs k2 nA=>⟨t,t',h1,h2,h3,e,sz,db,z,g1,g2,g3,g4,g5,hk cs (id:=mN) _ fR ⟨qf,q1,q2,?_,?_,?_⟩⟩⟩
     ·rcases q3 with q3|q3
      ·omega
      ·right;rw[ap6 bw];exact q3
     ·intro ZX
      rw[dQ (by simpa[-aU,-bB,-bx]using lZ),aro _ _ bw]
      have hF:=hF ZX
      rw[dQ lZ]at hF
      exact zB hF (by rw[ap6 (Ne.symm bw)];exact fR)
     ·rw[dQ (by simpa[-aU,-bB,-bx]using lZ),aro _ _ bw]
      rw[dQ lZ]at nA
      exact nA
    |av fi off n cG=>
     obtain⟨q0,q1,q2,q3,ZY,q4,q5,hF,rfl,rfl⟩:=h
     have OU:id<(rows.set fi Row.dead).length:=by simpa[-aU,-bB,-bx]using lZ
     have bw:mN≠id:=by
      rintro rfl
      rw[bH (aqx OU),if_pos rfl]at fR
      cases fR
     rw[bH (aqx OU),if_neg bw]at fR
     have Uc:mN≠fi:=by
      rintro rfl
      rw[aq5 aO]at fR
      cases fR
     have gD:rows[mN]?=some .bu:=by rwa[ap6 (Ne.symm Uc)]at fR
     have e1: ∀cs,da ((rows.set mN (.live cs)).set fi .dead) id (.live (b7 ZY off (n*sz)++new))=(da (rows.set fi .dead) id (.live (b7 ZY off (n*sz)++new))).set mN (.live cs):=by
      intro cs
      rw[dQ (by simpa[-aU,-bB,-bx]using lZ),dQ OU,aro _ _ Uc,aro _ _ bw]
     refine⟨gD,fun cs k2 nA=>⟨t,t',h1,h2,h3,e,sz,db,z,g1,g2,g3,g4,g5,hk cs (id:=mN) _ gD ⟨qf,q0,q1,q2,?_,ZY,?_,q5,?_,?_⟩⟩⟩
     ·rcases q3 with q3|q3
      ·omega
      ·right;rw[ap6 bw];exact q3
     ·rw[ap6 Uc];exact q4
     ·intro ZX
      rw[e1]
      refine zB (hF ZX) ?_
      rw[bH (aqx OU),if_neg bw]
      exact fR
     ·rw[e1];exact nA
    |_=>exact h.elim
  |_=>simp[-aU,-bB,-bx,isApp]at hf
def sw(mk:Nat→Nat)(ops:Array Oper)(i j:Nat):Bool:=
 jD mk ops i j||match ops[i]?,ops[j]? with
 |some oi,some oj=>oi.apart ops oj&&JX (mk i) oi.op&&mk j==0&&dA oj.op==1
 |_,_=>false
theorem OV{i j:Nat}{s:List V}{rows:List Row}(hc:sw mk ops i j=true)
  (hid: ∀(k:Nat) o,ops[k]?=some o→cJ P o.op=true→bl k<rows.length) (hw:Wf P F s rows) (h:cP P F mk ops bl i (cP P F mk ops bl j K) s rows):cP P F mk ops bl j (cP P F mk ops bl i K) s rows:=by
 unfold sw at hc
 rcases aqe _ _▸hc with hc|hc
 ·obtain⟨oi,oj,hi,hj,q1,q2,q3⟩:=qs hc
  exact uM hi hj q1 q2 q3 hid hw h
 split at hc
 ·rename_i oi oj hi hj
  simp only[apP,beq_iff_eq]at hc
  obtain⟨⟨⟨JC,m2⟩,m0⟩,k1⟩:=hc
  obtain⟨a1,a2,a3⟩:=Oper.apart_spec JC
  have aO:bl j<rows.length:=hid j oj hj (by cases wx:oj.op<;>rw[wx]at k1<;>simp[-aU,-bB,-bx,dA]at k1<;>(try rfl)<;>(split at k1<;>simp[-aU,-bB,-bx]at k1))
  rcases(bc hi).1 h with⟨hg,h⟩|⟨hg,h⟩
  ·obtain⟨vi,ri,h2,h1⟩:=kO h
   obtain⟨-,hlen⟩:True∧rows.length≤ri.length:=by
    obtain⟨v',r',⟨⟨-,rfl⟩,hl⟩,-⟩:=kO (zj (fun ha=>hid i oi hi ha) (h1 (fun v r=>v=vi∧r=ri) ⟨rfl,rfl⟩))
    exact⟨trivial,hl⟩
   rcases(bc hj).1 h2 with⟨tv,h2⟩|⟨tv,h2⟩
   ·rw[m0]at h2
    obtain⟨vj,cs,hf,h3,h4⟩:=rR k1 (df.1 h2)
    have fR:ri[bl j]?=some .bu:=by
     rcases hf with hf|hf
     ·omega
     ·exact hf
    obtain⟨gD,rU⟩:=L4 m2 (fun ha=>hid i oi hi ha) (h1 (fun v r=>v=vi∧r=ri) ⟨rfl,rfl⟩) aO fR
    have oz:=bp (ops:=ops) (s:=s) (v:=vi) a1
    have pa:=bp (ops:=ops) (s:=s) (v:=vj) a3
    refine(bc hj).2 (.inl ⟨by rw[←oz.1];exact tv,?_⟩)
    rw[m0]
    refine df.2 (mB oz.2 (h4 rows _ (.inr gD) ⟨fun e=>by omega,?_⟩))
    refine(bc hi).2 (.inl ⟨by rw[pa.1];exact hg,?_⟩)
    refine iD pa.symm.2 ?_
    rw[dQ aO]
    refine rU cs _ ?_
    rw[eG (fun d hd he=>a2 d he hd)]
    have:=h3.2
    rw[dQ (by omega)]at this
    exact this
   ·have oz:=bp (ops:=ops) (s:=s) (v:=vi) a1
    have pa:=bp (ops:=ops) (s:=s) (v:=V.aa) a3
    refine(bc hj).2 (.inr ⟨by rw[←oz.1];exact tv,(bc hi).2 (.inl ⟨by rw[pa.1];exact hg,?_⟩)⟩)
    refine iD pa.symm.2 (h1 _ ?_)
    rw[eG (fun d hd he=>a2 d he hd)]
    exact h2
  ·rcases(bc hj).1 h with⟨tv,h2⟩|⟨tv,h2⟩
   ·rw[m0]at h2
    obtain⟨vj,cs,hf,h3,h4⟩:=rR k1 (df.1 h2)
    have oz:=bp (ops:=ops) (s:=s) (v:=V.aa) a1
    have pa:=bp (ops:=ops) (s:=s) (v:=vj) a3
    refine(bc hj).2 (.inl ⟨by rw[←oz.1];exact tv,?_⟩)
    rw[m0]
    refine df.2 (mB oz.2 (h4 rows _ hf ⟨fun e=>by omega,?_⟩))
    refine(bc hi).2 (.inr ⟨by rw[pa.1];exact hg,?_⟩)
    rw[eG (fun d hd he=>a2 d he hd)]
    exact h3.2
   ·have oz:=bp (ops:=ops) (s:=s) (v:=V.aa) a1
    have pa:=bp (ops:=ops) (s:=s) (v:=V.aa) a3
    refine(bc hj).2 (.inr ⟨by rw[←oz.1];exact tv,(bc hi).2 (.inr ⟨by rw[pa.1];exact hg,?_⟩)⟩)
    rw[eG (fun d hd he=>a2 d he hd)]
    exact h2
 ·cases hc
theorem zC{i n:Nat}{l2:List Nat}(hid: ∀(k:Nat) o,ops[k]?=some o→cJ P o.op=true→bl k<n):
  ∀(l1:List Nat) (s:List V) (rows:List Row),n≤rows.length→(∀j∈l1,sw mk ops j i=true)→Wf P F s rows→dP P F mk ops bl (l1++i::l2) K s rows→cP P F mk ops bl i (dP P F mk ops bl (l1++l2) K) s rows
 |[],s,rows,_,_,_,h=>h
 |j::l1,s,rows,hl,hc,hw,h=>by
  have zp: ∀(k:Nat) o,ops[k]?=some o→cJ P o.op=true→bl k<rows.length:=fun k o h1 h2=>aqJ (hid k o h1 h2) hl
  refine OV (hc j (by simp[-aU,-bB,-bx])) zp hw (lW (fun s' r' rA ⟨h1,h2⟩=>?_) hw (lY zp h))
  exact zC hid l1 s' r' (aqD hl h2) (fun k hk=>hc k (by simp[-aU,-bB,-bx,hk])) rA h1
def xP(mk:Nat→Nat)(ops:Array Oper)(bs:Array Nat):Bool:=
 jE ops bs&&(List.range ops.size).all fun i=>(List.range i).all fun j=>(bs.getD i 0).testBit j||sw mk ops j i
def Rq(mk:Nat→Nat)(ops:Array Oper):Bool:=xP mk ops (nY ops)
theorem Ud{c:Ctx}{Q:Exit→KS}{listed:Array Bool}{a:Act}{w:World}{s:List V}{rows:List Row}(hr: ∀j,listed.getD j true=false→False)(hc:gj c s rows a w)(h:K s rows): ∀fuel,wpAnyIn (fw rd) 0 P .any ops (lift c (cZ K Q)) fuel listed a w
 |0=>⟨aqZ.2 fun j hj=>hr j (mem_ready.1 hj).1,s,rows,h,hc⟩
 |fuel+1=>⟨fun _=>⟨s,rows,h,hc⟩,fun i hi=>(hr i (mem_ready.1 hi).1).elim⟩
theorem OW{bs:Array Nat}{n z:Nat}{c:Ctx}{Q:Exit→KS}(go:iL P c)(hid: ∀(k:Nat) o,ops[k]?=some o→cJ P o.op=true→bl k<n)(hb:xP mk ops bs=true)(hz:z+1=ops.size)(Rs: ∀j,j<z→(bs.getD z 0).testBit j=true):
  ∀(fuel:Nat) (r:List Nat) (listed:Array Bool) (a:Act) (w:World) (s:List V) (rows:List Row),r.length+1≤fuel→n≤rows.length→bW F rows→listed.size=ops.size→
   (∀j,j∈r++[z]↔listed.getD j true=false)→(r++[z]).Pairwise (· < ·)→kj ops listed→gj c s rows a w→dP P F mk ops bl r (dP P [] mk ops bl [z] K) s rows→
   wpAnyIn (fw rd) 0 P .any ops (lift c (cZ K Q)) fuel listed a w:=by
 have pc:jE ops bs=true:=by
  unfold xP at hb
  exact(apP _ _▸hb).1
 have nj: ∀i j,i<ops.size→j<i→(bs.getD i 0).testBit j=true∨sw mk ops j i=true:=by
  intro i j hi hj
  unfold xP at hb
  have:=(apP _ _▸hb).2
  rw[ap1]at this
  have:=this i (aqv.2 hi)
  rw[ap1]at this
  have:=this j (aqv.2 hj)
  rwa[aqe]at this
 have gq:=jL pc
 have hoz:ops[z]?=some (ops[z]'(by omega)):=aqs (by omega)
 intro fuel
 induction fuel with
 |zero=>
  intro r listed a w s rows hf hl hF cm hr hp bZ hc h
  omega
 |succ fuel ih=>
  intro r listed a w s rows hf hl hF cm hr hp bZ hc h
  have uU:listed.getD z true=false:=(hr z).1 (by simp[-aU,-bB,-bx])
  refine⟨fun tx=>?_,fun i hi=>?_⟩
  ·exfalso
   obtain⟨j,r',hjr⟩: ∃j r',r++[z]=j::r':=by
    cases r with
    |nil=>exact⟨z,[],rfl⟩
    |cons j r=>exact⟨j,r++[z],rfl⟩
   rw[hjr]at hr hp
   have hj:=(hr j).1 (by simp[-aU,-bB,-bx])
   have GI:j<ops.size:=cm▸cw hj
   have qK:ops[j]?=some (ops[j]'GI):=aqs GI
   have:j∈Region.ready .any ops listed:=by
    refine mem_ready.2 ⟨hj,_,qK,fun e he JD=>?_⟩
    have aO:=gq.lt j _ e qK he JD
    have CH:e.on∉j::r':=by
     intro hm
     rcases ap8.1 hm with hm|hm
     ·omega
     ·have:=(ark.1 hp).1 _ hm
      omega
    rw[fI (by omega) false true]
    cases hv:listed.getD e.on true with
    |true=>rfl
    |false=>exact absurd ((hr e.on).2 hv) CH
   rw[tx]at this
   cases this
  ·obtain⟨jf,o,ho,jk⟩:=mem_ready.1 hi
   by_cases ZZ:i=z
   ·subst ZZ
    have Z7:r=[]:=by
     refine aqZ.2 fun j hj=>?_
     have aO:j<i:=(aqO.1 hp).2.2 j hj i (by simp[-aU,-bB,-bx])
     have h1:=gh cm gq bZ i o ho jk j aO (Rs j aO)
     have h2:=(hr j).1 (by simp[-aU,-bB,-bx,hj])
     rw[fI (cw h2) false true,h2]at h1
     cases h1
    subst Z7
    have h0:cP P [] mk ops bl i K s rows:=h
    have hW:Wf P [] s rows:=⟨⟨c,a,w,go,hc⟩,tY.2 trivial⟩
    have hlen:=lY (bl:=bl) (fun k o hk ha=>aqJ (hid k o hk ha) hl) h0
    have zr: ∀a' w' s' ad,n≤ad.length→gj c s' ad a' w'→K s' ad→wpAnyIn (fw rd) 0 P .any ops (lift c (cZ K Q)) fuel (listed.setIfInBounds i true) a' w':=by
     intro a' w' s' ad lR c8 h'
     refine Ud (fun j hj=>?_) c8 h' fuel
     by_cases kl:i=j
     ·subst kl
      rw[ib true (cw jf)]at hj
      cases hj
     ·rw[getD_set_ne true kl]at hj
      have:=(hr j).2 hj
      simp[-aU,-bB,-bx]at this
      exact absurd this.symm kl
    obtain⟨ro,ρ,g,hs⟩:=hc
    unfold wpOpIn
    simp only[ho]
    unfold cP at hlen
    simp only[ho]at hlen
    rcases oA (c:=c) hs hlen with⟨hw,h⟩|⟨hw,h⟩
    ·rw[if_pos hw]
     obtain⟨draw,jV,tu⟩:=mC (tY.2 trivial) h
     refine sd (c:=c) go hs g tu ?_
     intro v w' r ad aY ρ' h1 h2 h3
     exact zr _ _ _ _ (aqD hl h1.2) ⟨aY,ρ',h2,h3⟩ h1.1
    ·rw[if_neg (by simp[-aU,-bB,-bx,hw])]
     exact⟨fun _ _=>trivial,zr _ _ _ _ hl ⟨ro,ρ,g,hs.put .aa o.dst⟩ h.1⟩
   ·have JM:i∈r:=by
     have:=(hr i).2 jf
     simp[-aU,-bB,-bx]at this
     exact this.resolve_right ZZ
    obtain⟨l1,l2,rfl⟩:=List.append_of_mem JM
    have hp1:=(aqO.1 hp).1
    have lZ: ∀j∈l1,j<i:=fun j hj=>(aqO.1 hp1).2.2 j hj i (by simp[-aU,-bB,-bx])
    have vK:i<ops.size:=(ap4.1 ho).1
    have D2: ∀j∈l1,sw mk ops j i=true:=by
     intro j hj
     refine(nj i j vK (lZ j hj)).resolve_left fun JE=>?_
     have h1:=gh cm gq bZ i o ho jk j (lZ j hj) JE
     have h2:=(hr j).1 (by simp[-aU,-bB,-bx,hj])
     rw[fI (cw h2) false true,h2]at h1
     cases h1
    have hW:Wf P F s rows:=⟨⟨c,a,w,go,hc⟩,hF⟩
    have l4:=lW (K2:=fun s' r'=>(dP P F mk ops bl (l1++l2) (dP P [] mk ops bl [z] K) s' r'∧rows.length≤r'.length)∧bW F r') (fun s' r' rA h'=>⟨h',rA.2⟩) hW (lY (bl:=bl) (fun k o hk ha=>aqJ (hid k o hk ha) hl) (zC hid l1 s rows hl D2 hW h))
    have zr: ∀a' w' s' ad,n≤ad.length→bW F ad→gj c s' ad a' w'→dP P F mk ops bl (l1++l2) (dP P [] mk ops bl [z] K) s' ad→wpAnyIn (fw rd) 0 P .any ops (lift c (cZ K Q)) fuel (listed.setIfInBounds i true) a' w':=by
     intro a' w' s' ad lR D0 c8 h'
     have JF:=hp.imp (S:=(· ≠ ·)) (fun h=>Nat.ne_of_lt h)
     refine ih (l1++l2) _ a' w' s' ad (by simp[-aU,-bB,-bx]at hf⊢;omega) lR D0 (by simpa[-aU,-bB,-bx]using cm) (fun j=>?_) ?_ (pb bZ ho jk) c8 h'
     ·by_cases kl:i=j
      ·subst kl
       rw[ib true (cw jf)]
       constructor
       ·intro hm
        exfalso
        have h1:=aqO.1 (aqO.1 JF).1
        rcases aqr.1 hm with hm|hm
        ·rcases aqr.1 hm with hm|hm
         ·exact h1.2.2 i hm i (by simp[-aU,-bB,-bx]) rfl
         ·exact(ark.1 h1.2.1).1 i hm rfl
        ·simp[-aU,-bB,-bx]at hm;exact ZZ hm
       ·intro h;cases h
      ·rw[getD_set_ne true kl,←hr j]
       simp[-aU,-bB,-bx,Ne.symm kl]
     ·refine hp.sublist ?_
      exact arK (arK (arT _) (List.sublist_cons_self _ _)) (arT _)
    obtain⟨ro,ρ,g,hs⟩:=hc
    unfold wpOpIn
    simp only[ho]
    unfold cP at l4
    simp only[ho]at l4
    rcases oA (c:=c) hs l4 with⟨hw,h⟩|⟨hw,h⟩
    ·rw[if_pos hw]
     obtain⟨draw,jV,tu⟩:=mC hF h
     refine sd (c:=c) go hs g tu ?_
     intro v w' r ad aY ρ' h1 h2 h3
     exact zr _ _ _ _ (aqD hl h1.1.2) h1.2 ⟨aY,ρ',h2,h3⟩ h1.1.1
    ·rw[if_neg (by simp[-aU,-bB,-bx,hw])]
     exact⟨fun _ _=>trivial,zr _ _ _ _ hl hF ⟨ro,ρ,g,hs.put .aa o.dst⟩ h.1.1⟩
end
section
variable {P : Program} {ops : Array Oper} {F : List (Nat × Nat × V)} {s : List V} {rows : List Row} {K : KS}
theorem tE(base:Nat)(ms:List Nat){K':KS}(hk: ∀s rows,K s rows→K' s rows): ∀(os Rt:List Oper) (t:Nat),ops.toList.drop t=os++Rt→ ∀(s:List V) (rows:List Row),au P ops F (ms.drop t) os (eP ops base t) s rows K→dP P F (ef ms) ops (eP ops base) (List.range' t os.length) K' s rows
 |[],Rt,t,hd,s,rows,h=>hk _ _ h
 |o::os,Rt,t,hd,s,rows,h=>by
  have ht:ops.toList[t]?=some o:=by
   have:=congrArg (fun l=>l[0]?) hd
   simpa[-aU,-bB,-bx]using this
  have fx:ops.toList.drop (t+1)=os++Rt:=by
   have:=congrArg List.tail hd
   simpa[-aU,-bB,-bx]using this
  have hid:(if aU o.op=true then eP ops base t+1 else eP ops base t)=eP ops base (t+1):=by
   unfold eP
   rw[List.take_add_one,ht]
   by_cases hn:aU o.op=true
   ·simp[-aU,-bB,-bx,hn,aqX];omega
   ·simp[-aU,-bB,-bx,hn,aqX]
  have ho:ops[t]?=some o:=by simpa[-aU,-bB,-bx]using ht
  have ih:=fun s rows=>tE base ms hk os Rt (t+1) fx s rows
  have hm:(ms.drop t).headD 0=ef ms t:=by
   unfold ef
   rw[List.headD_eq_head?_getD,List.head?_drop,ap2]
  simp only[au,hid,hm,List.tail_drop]at h
  simp only[apS,List.range'_succ,dP]
  refine(bc ho).2 ?_
  rcases fm.1 h with⟨h1,h2⟩|⟨h1,h2⟩
  ·obtain⟨v,ad,h3,h4⟩:=kO h2
   exact .inl ⟨h1,h4 (fun v r=>dP P F (ef ms) ops (eP ops base) (List.range' (t+1) os.length) K' (aD s o.dst v) r) (ih _ _ h3)⟩
  ·exact .inr ⟨h1,ih _ _ h2⟩
theorem CL{n0 id m z:Nat}{Q:Exit→KS}(F:List (Nat×Nat×V))(hF:bW F rows)(hn:ez ops=m)(ms:List Nat)(os:List Oper)(o:Oper)(mN:Nat)(hz:ops.toList=os++[o])(hzn:os.length=z)(afV:eP ops rows.length z=mN)(hm:P.follows .mixedOrders=true)(hi:Rq (ef ms) ops=true)
  (Rs:((List.range z).all fun j=>((nY ops).getD z 0).testBit j)=true)
  (h:au P ops F ms os rows.length s (rows++List.replicate m .bu) fun s rows=>au P ops [] (ms.drop z) [o] mN s rows (Q .normal)):aS P n0 (.region id ops true) Q s rows:=by
 subst hn
 subst hzn
 subst afV
 have cm:os.length+1=ops.size:=by have:=congrArg List.length hz;simpa[-aU,-bB,-bx]using this.symm
 intro c a w Dd hc rd ju
 obtain⟨ro,ρ,g,hs⟩:=hc
 have Re:bW F (rows++List.replicate (ez ops) .bu):=fun p hp=>by
  obtain⟨cs,h1,h2⟩:=hF p hp
  exact⟨cs,by rw[ap7 (apN.1 h1).1];exact h1,h2⟩
 have hr:=tE (P:=P) (F:=F) rows.length ms (K':=dP P [] (ef ms) ops (eP ops rows.length) [os.length] (Q .normal)) (fun s rows h=>?_) os [o] 0 hz s _ (by simpa[-aU,-bB,-bx,eP]using h)
 refine wpIn_mono (Q:=lift c (cZ (Q .normal) Q)) (wpIn_region_any hm ?_) ?_
 ·refine OW Dd.2 (bl:=eP ops rows.length) (n:=rows.length+ez ops) (bs:=nY ops) ?_ hi cm (fun j hj=>(ap1.1 Rs) j (aqv.2 hj)) ops.size (List.range' 0 os.length) _ a _ s _ (by simp[-aU,-bB,-bx];omega) (by simp[-aU,-bB,-bx]) Re (by simp[-aU,-bB,-bx]) ?_ ?_ ?_ ?_ hr
  ·intro k o ho ha
   have hk:k<ops.size:=(ap4.1 ho).1
   have q9:=xD ha
   unfold eP ez
   have:ops.toList=ops.toList.take k++o::ops.toList.drop (k+1):=by
    have zo:k<ops.toList.length:=by simpa[-aU,-bB,-bx]using hk
    have he:ops.toList[k]'zo=o:=by
     have:=(ap4.1 ho).2
     simpa[-aU,-bB,-bx]using this
    rw[←he,List.getElem_cons_drop,aqE]
   have h2:=congrArg (fun l=>(l.filter fun o=>aU o.op).length) this
   simp only[aqX,aqa,ar0,q9,if_true,apS]at h2
   omega
  ·intro j
   rw[aqr,arU,aqn]
   constructor
   ·intro hj
    have:j<ops.size:=by omega
    simp[-aU,-bB,-bx,this]
   ·intro hj
    have:=cw hj
    simp[-aU,-bB,-bx]at this
    omega
  ·refine aqO.2 ⟨List.pairwise_lt_range',by simp[-aU,-bB,-bx],fun a ha b hb=>?_⟩
   rw[arU]at ha
   simp[-aU,-bB,-bx]at hb
   omega
  ·intro i o ho hl
   have hi:i<ops.size:=(ap4.1 ho).1
   simp[-aU,-bB,-bx,hi]at hl
  ·obtain⟨g1,e1⟩:=g.drew (w.drawn+1)
   obtain⟨g2,e2⟩:=g1.AO (ez ops)
   exact⟨ro,_,g2,(hs.ext e1).ext e2⟩
 ·rintro e a' w' ⟨s',ad,hQ,c8⟩
  cases e<;>exact⟨s',ad,hQ,c8⟩
 ·exact tE (P:=P) (F:=[]) _ ms (fun _ _ h=>h) [o] [] os.length (by rw[hz];simp[-aU,-bB,-bx]) s rows h
theorem CM{n0 id m:Nat}{Q:Exit→KS}(F:List (Nat×Nat×V))(hF:bW F rows)(hn:ez ops=m)(ms:List Nat)(z:Nat)(hz:ops.toList.length=z+1)(hm:P.follows .mixedOrders=true)(hi:Rq (ef ms) ops=true)
  (Rs:((List.range z).all fun j=>((nY ops).getD z 0).testBit j)=true)
  (h:au P ops F ms (ops.toList.take z) rows.length s (rows++List.replicate m .bu) fun s ar=>au P ops [] (ms.drop z) (ops.toList.drop z) (eP ops rows.length z) s ar (Q .normal)):aS P n0 (.region id ops true) Q s rows:=by
 obtain⟨o,ho⟩: ∃o,ops.toList.drop z=[o]:=List.length_eq_one_iff.1 (by rw[apU];omega)
 rw[ho]at h
 exact CL F hF hn ms _ o _ (by rw[←ho,aqE]) (by rw[apT];omega) rfl hm hi Rs h
end
end Go.VS
set_option linter.all false
namespace Go.VS
def EG(P:Program)(f:FuncId)(args:List V)(rows:List (List V))(R:V→List (List V)→Prop):Prop:=
 cO P f args (cQ rows) fun r' rs=> ∃ad,R r' ad∧r'.Pure∧ad.length=rows.length∧(∀x∈ad,bf x)∧rs=cQ ad
section
variable {P : Program} {f : FuncId} {args : List V} {rows : List (List V)} {R : V → List (List V) → Prop}
theorem acg(h:cO P f args (cQ rows) fun r' rs=> ∃r ad,R r ad∧r.Pure∧ad.length=rows.length∧(∀x∈ad,bf x)∧Le rows.length [r'] rs [r] (cQ ad)):EG P f args rows R:=by
 refine⟨h.1,fun w ro ρ vs g go ha=>(h.2 w ro ρ vs g go ha).mono ?_⟩
 rintro e w' ⟨v,r',rs,aY,ρ',rfl,⟨r,ad,hR,hp,hl,vZ,⟨m,hr,hm,hn⟩⟩,g',hv⟩
 have hlen:ρ.length=rows.length:=by have:=g.len;simpa using this
 obtain⟨f1,f2⟩:=hm.fwd g'
 exact⟨v,r,_,aY,_,rfl,⟨ad,hR,hp,hl,vZ,rfl⟩,g'.le hm (fun j hj=>hn j (by rw[←hlen];exact hj)),hv.F7 hr.1 f1 f2⟩
theorem Ff{fn:Func}{code:Code}(hf:P.funcs[f]?=some fn)(hb:fn.body=some code)(he:Enters P f)
  (h:aS P rows.length code (bz P fn.results.toList fun r' rs=> ∃r ad,R r ad∧r.Pure∧ad.length=rows.length∧(∀x∈ad,bf x)∧Le rows.length [r'] rs [r] (cQ ad)) (args++List.replicate (fn.ntmps-args.length) .aa) (cQ rows)):EG P f args rows R:=
 acg (jH hf hb he (by rw[yI];exact h))
theorem EG.mono{R':V→List (List V)→Prop}(h:EG P f args rows R)(hr: ∀r ad,R r ad→R' r ad):EG P f args rows R':=
 cO.mono h fun r rs ⟨ad,h1,h2⟩=>⟨ad,hr _ _ h1,h2⟩
theorem Cy{cap dG:List V}{gH:List Row}{k:KV}(m:List Nat)(hc:EG P f args rows R)(j4:m.Nodup)
  (jP:ae (m.map some) gH (m.map some) (cQ rows)) (ha:dI false (m.map some) args (dG++cap)) (hl:rows.length=m.length)
  (hk: ∀r ad,R r ad→r.Pure→ad.length=rows.length→(∀x∈ad,bf x)→k r (nh gH m ad)):mh P false (.fn (.func f) cap) dG gH k:=by
 refine .inr ⟨rfl,m,args,cQ rows,_,j4,aZ ?_ jP,ha,hc,?_⟩
 ·have X6:(m.map some).filterMap id=m:=by
   induction m with
   |nil=>rfl
   |cons a m ih=>simp
  rw[X6];exact j4
 rintro r1 rs ⟨ad,hR,hp,hlr,vZ,rfl⟩
 obtain⟨g1,g2,-⟩:=iP jP
 have aO: ∀(j i:Nat),m[j]?=some i→i<gH.length:=by
  intro j i hj
  have sL:j<m.length:=(apN.1 hj).1
  obtain⟨r0,vR⟩:=aC (l:=cQ rows) (i:=j) (by rw[g1];simpa using sL)
  obtain⟨r2,j2,-⟩:=g2 j i r0 (by simp[hj]) vR
  exact(apN.1 j2).1
 have eu:(cQ ad).length=m.length:=by simp[hlr,hl]
 refine⟨r1,nh gH m ad,⟨by omega,by rw[ia,eu];omega,?_,?_⟩,.pure hp,hk r1 ad hR hp hlr vZ⟩
 ·intro j i q hj hq
  rw[eu]at hj⊢
  obtain⟨x,hx,rfl⟩: ∃x,ad[j]?=some x∧q=.live x:=by
   rw[cQ,apZ]at hq
   cases hz:ad[j]? with
   |none=>rw[hz]at hq;simp at hq
   |some x=>rw[hz]at hq;simp at hq;exact⟨x,rfl,hq.symm⟩
  have sL:=(apN.1 hx).1
  rw[oS,if_pos (by omega)]at hj
  have ub:m[j]?=some i:=by simpa using hj
  exact⟨.live x,rD m ad gH j i x j4 ub hx (aO j i ub),gM (vZ x (aqg hx))⟩
 ·intro i hi hn
  rw[qy m ad gH i hn]
end
end Go.VS
set_option linter.all false
namespace Go.VS
structure Oo (n0 : Nat) (K : KS) : Prop where
 le: ∀s rows s' ad,Le n0 s rows s' ad→K s' ad→K s rows
 fz: ∀(id:Nat) {cs:List V} {s s':List V} {rows ad:List Row},rows[id]?=some (.live cs)→bf cs→s.map (VS.fz id cs)=s'→(rows.set id .dead).map (im id cs)=ad→K s' ad→K s rows
 nz: ∀{s:List V} {rows ad:List Row},rows.map Ax=ad→K s ad→K s rows
theorem Cp{n0:Nat}{P:Program}{Q:Exit→KS}{s:List V}{rows:List Row}{x y:Code}
  (h: ∀K:KS,(∀s rows,aS P n0 y Q s rows→K s rows)→Oo n0 K→aS P n0 x (cZ K Q) s rows):aS P n0 (.seq x y) Q s rows:=by
 refine b8 fun Ka hKa=>wZ (h (aS P n0 y Q) (fun _ _ h=>h) ⟨fun _ _ _ _ hl h=>DE hl h,@fun id cs s s' rows ad hl hp hs hr h=>iz id hl hp hs hr h,@fun s rows ad e h=>Qc (by rw[e];exact h)⟩) fun e s rows he=>?_
 cases e<;>first|exact he|exact hKa _ _ he
end Go.VS
set_option linter.all false
namespace Go.VS
variable {rd : Option Nat} {b0 : Nat}
theorem gj.freeze{c:Ctx}{s:List V}{rows:List Row}{a:Act}{w:World}(hc:gj c s rows a w)(id:Nat){cs:List V}(hl:rows[id]?=some (.live cs))(hp:bf cs):gj c (s.map (fz id cs)) ((rows.set id .dead).map (im id cs)) a w:=by
 obtain⟨ro,ρ,g,hs⟩:=hc
 obtain⟨aY,ρ',g',hr,hk⟩:=g.freeze hl hp
 refine⟨aY,ρ',g',?_,hs.marks.fg hk⟩
 refine⟨by simpa using hs.pI.1,fun i u x hu hx=>?_⟩
 rw[apZ]at hx
 cases hq:s[i]? with
 |none=>rw[hq]at hx;simp at hx
 |some v=>
  rw[hq]at hx
  simp at hx
  subst hx
  exact hr u v (hs.pI.2 i u v hu hq)
theorem TH{n0:Nat}{P:Program}{Q:Exit→KS}{s:List V}{rows:List Row}{x:Code}
  (h: ∀K:KS,(∀s rows,Q .normal s rows→K s rows)→Oo n0 K→aS P n0 x (cZ K Q) s rows):aS P n0 x Q s rows:=by
 intro c a w hn hc rd ju
 refine wpIn_mono (h (fun s rows=> ∀a w,gj c s rows a w→lift c Q .normal a w) (fun s rows hq a w hc=>⟨s,rows,hq,hc⟩) ⟨fun s rows s' ad hl hk a w hc=>?_,@fun id cs s s' rows ad hl hp hs hr hk a w hc=>?_,@fun s rows ad e hk a w hc=>?_⟩ c a w hn hc rd ju) ?_
 ·obtain⟨rfl,-⟩:=hn
  exact hk a w (hc.le hl)
 ·subst hs;subst hr
  exact hk a w (hc.freeze id hl hp)
 ·subst e
  obtain⟨ro,ρ,g,hs⟩:=hc
  exact hk a w ⟨ro,ρ,g.nz,hs⟩
 rintro e a' w' ⟨s',ad,hQ,c8⟩
 cases e with
 |normal=>exact hQ a' w' c8
 |_=>exact⟨s',ad,hQ,c8⟩
end Go.VS
set_option linter.all false
namespace Go.VS
variable {rd : Option Nat} {b0 : Nat}
section
variable {P : Program} {n0 : Nat} {Q : Exit → KS}
def sq(P:Program)(n0:Nat)(code:Code)(Q:Exit→KS):Nat→KS
 |0=>fun _ _=>False
 |n+1=>fun s rows=>aS P n0 code (cZ (sq P n0 code Q n) Q) s rows
theorem qZ{code:Code}{c:Ctx}(hn:c.ρ.length=n0∧iL P c)(ju:OX c rd): ∀(n:Nat) (s:List V) (rows:List Row) (a:Act) (w:World),sq P n0 code Q n s rows→gj c s rows a w→Code.roundsIn (fw rd) 0 P code (lift c Q) n a w
 |0,_,_,_,_,h,_=>h.elim
 |n+1,s,rows,a,w,h,hc=>by
  rw[roundsIn_succ]
  refine wpIn_mono (h c a w hn hc rd ju) ?_
  rintro e a' w' ⟨s',ad,hQ,c8⟩
  cases e with
  |normal=>exact qZ hn ju n s' ad a' w' hQ c8
  |exit id=>exact⟨s',ad,hQ,c8⟩
  |goto l=>exact⟨s',ad,hQ,c8⟩
  |ret=>exact⟨s',ad,hQ,c8⟩
  |panic ch=>exact⟨s',ad,hQ,c8⟩
  |outgrown=>exact⟨s',ad,hQ,c8⟩
theorem cC{code:Code}{s:List V}{rows:List Row}(n:Nat)(h: ∀KL:Nat→KS,(∀m s rows,aS P n0 code (cZ (KL m) Q) s rows→KL (m+1) s rows)→aS P n0 code (cZ (KL n) Q) s rows):aS P n0 (.loop code) Q s rows:=by
 intro c a w hn hc rd ju
 refine wpIn_loop_rounds (n+1) (qZ hn ju (n+1) s rows a w ?_ hc)
 exact h (sq P n0 code Q) fun m s rows h=>h
end
end Go.VS
set_option linter.all false
namespace Go.VS
theorem Zz{P:Program}{n0:Nat}{Q:Exit→KS}{s s':List V}{rows ad:List Row}{code:Code}(id:Nat){cs:List V}(h:aS P n0 code Q s' ad)(hl:rows[id]?=some (.live cs):=by rfl)(hp:bf cs:=by simp)(hs:s.map (fz id cs)=s':=by simp[sf,Z8,WT,WU];rfl)(hr:(rows.set id .dead).map (im id cs)=ad:=by simp[im,sf,Z8,WT,WU];rfl):aS P n0 code Q s rows:=iz id hl hp hs hr h
end Go.VS
