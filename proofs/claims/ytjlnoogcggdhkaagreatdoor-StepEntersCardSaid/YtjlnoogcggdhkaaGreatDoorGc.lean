/-
 VALUE SEMANTICS, 17: regions that draw their order: one walk in the order of the text serves, where what is unordered is apart.
 Conditions: none.
-/
import Derived.Test.YtjlnoogcggdhkaaGreatDoorGb
set_option linter.all false
namespace Go.VS
variable {rd : Option Nat} {b0 : Nat}
def bW(F:List (Nat×Nat×V))(rows:List Row):Prop:= ∀p∈F,∃cs,rows[p.1]?=some (.live cs)∧cs[p.2.1]?=some p.2.2
@[simp] theorem tY{rows:List Row}:bW [] rows↔True:=iff_true_intro fun p h=>by simp at h
@[simp] theorem ab8{p:Nat×Nat×V}{F:List (Nat×Nat×V)}{rows:List Row}:bW (p::F) rows↔(∃cs,rows[p.1]?=some (.live cs)∧cs[p.2.1]?=some p.2.2)∧bW F rows:=by
 simp[bW]
theorem bW.dM{F:List (Nat×Nat×V)}{rows:List Row}{id:Nat}{e:Option (List V)}(h:bW F rows)(hf:e≠none→dB rows id):bW F (dM rows id e):=by
 intro p hp
 obtain⟨cs,h1,h2⟩:=h p hp
 refine⟨cs,?_,h2⟩
 cases e with
 |none=>exact h1
 |some ds=>
  have aO:=(apN.1 h1).1
  simp only[Go.VS.dM]
  rcases hf (by simp)with hf|hf
  ·rw[bH (by omega),if_neg (by omega)];exact h1
  ·rw[bH (aqx (apN.1 hf).1),if_neg]
   ·exact h1
   ·rintro rfl;rw[hf]at h1;simp at h1
def Wf(P:Program)(F:List (Nat×Nat×V))(s:List V)(rows:List Row):Prop:=(∃c a w,iL P c∧gj c s rows a w)∧bW F rows
def cV(ops:Array Oper)(g:Option (Nat×Bool))(s:List V):Option Bool:=
 match g with
 |none=>some true
 |some (j,want)=>match(ops[j]?).bind (·.dst)with
  |some d=>(match bL s d with
   |.bool b=>some (b==want)
   |_=>none)
  |none=>none
theorem fm{ops:Array Oper}{g:Option (Nat×Bool)}{s:List V}{yes no:Prop}:kg ops g s yes no↔(cV ops g s=some true∧yes)∨(cV ops g s=some false∧no):=by
 cases g with
 |none=>simp[kg,cV]
 |some q=>
  obtain⟨j,want⟩:=q
  simp only[kg,cV]
  cases(ops[j]?).bind (·.dst)with
  |none=>simp
  |some d=>
   simp only
   cases bL s d with
   |bool b=>by_cases h:b=want<;>simp[h]
   |_=>simp
def bB(P:Program)(op:Op)(s:List V)(rows:List Row)(k:KV):Prop:=
 match op with
 |.load t a=>(match ax s a with
  |.aL cs=>gr P t cs 0 fun v=>k v rows
  |_=>False)
 |.slice t x lo hi mx=>(∀id off,ax s x≠.ref id off)∧DV P t (ax s x) (lo.map (ax s)) (hi.map (ax s)) (mx.map (ax s)) rows k
 |.call c=>(match c.callee with
  |.value f=>(match ax s f with
   |.fn (.func f) cap=> ∃r,(∀x∈c.args.toList.map (ax s)++cap,x.Pure)∧ao P f (c.args.toList.map (ax s)++cap) r∧k r rows
   |_=>False)
  |_=>False)
 |_=>False
def oR(P:Program)(f:FuncId)(args:List V)(rows:List Row)(k:KV):Prop:=
 ∃(m:List Nat) (gY:List V) (fk:List Row) (r1:V) (eU:List Row) (r:V) (ad:List Row),m.Nodup∧jl (m.map some) fk rows∧dI false (m.map some) gY args∧cO P f gY fk (fun a b=>a=r1∧b=eU)∧
  Ra m rows eU ad∧Ren true (behind m rows.length eU.length) r1 r∧k r ad
theorem nM{P:Program}{f:FuncId}{args:List V}{rows:List Row}{k:KV}(h:oR P f args rows k):Jz P f args rows k:=by
 obtain⟨m,gY,fk,r1,eU,r,ad,h1,h2,h3,h4,h5,h6,h7⟩:=h
 exact⟨m,gY,fk,_,h1,h2,h3,h4,by rintro _ _ ⟨rfl,rfl⟩;exact⟨r,ad,h5,h6,h7⟩⟩
def bx(P:Program)(op:Op)(s:List V)(rows:List Row)(k:KV):Prop:=
 match op with
 |.call c=>(match c.callee with
  |.value f=>(match ax s f with
   |.fn (.func f) cap=>oR P f (c.args.toList.map (ax s)++cap) rows k
   |_=>False)
  |_=>False)
 |_=>False
def hU(P:Program)(F:List (Nat×Nat×V))(op:Op)(s:List V)(rows:List Row)(k:KV):Prop:=
 ∃v,(∀ar,bW F ar→bF P true op 0 s ar fun v' r'=>v'=v∧r'=ar)∧k v rows
def mA(P:Program)(op:Op)(s:List V)(rows:List Row)(k:KV):Prop:=
 ∃news v,(∀(ar:List Row) (k2:KV),ar.length=rows.length→k2 v (ar++news)→bx P op s ar k2)∧k v (rows++news)
def cp(P:Program)(F:List (Nat×Nat×V))(m:Nat)(op:Op)(id:Nat)(s:List V)(rows:List Row)(k:KV):Prop:=
 match m with
 |0=>bF P true op id s rows fun v r=>(dA op=3→bW F r)∧k v r
 |1=>bB P op s rows k
 |2=>bx P op s rows fun v r=>bW F r∧k v r
 |4=>mA P op s rows k
 |_=>hU P F op s rows k
def dy(m:Nat)(op:Op):Nat:=
 match m with
 |0=>dA op
 |2=>3
 |4=>3
 |_=>0
section
variable {P : Program} {F : List (Nat × Nat × V)} {op : Op} {m : Nat} {id : Nat} {s s2 : List V} {rows : List Row} {k : KV}
theorem o9(h:bB P op s rows k): ∃v,k v rows∧ ∀ar (k2:KV),k2 v ar→bB P op s ar k2:=by
 cases op<;>simp only[bB]at h⊢ <;>(try(exact h.elim))
 case load t a=>
  cases ha:ax s a with
  |aL cs=>
   rw[ha]at h
   obtain⟨v,h1,h2⟩:=vn h
   exact⟨v,h1,fun ar k2 h=>h2 (fun v=>k2 v ar) h⟩
  |_=>rw[ha]at h;exact h.elim
 case slice t x lo hi mx=>
  obtain⟨bw,hm,h⟩:=h
  cases hx:ax s x with
  |str l=>
   rw[hx]at h
   obtain⟨h1,h2⟩:=h
   obtain⟨a,b,h3,h4⟩:=gI h2
   exact⟨_,h3,fun ar k2 h=>⟨fun _ _ h=>by simp at h,hm,h1,h4 (fun a b=>k2 (.str ((l.drop a).take (b-a))) ar) h⟩⟩
  |aj=>
   rw[hx]at h
   obtain⟨h1,h2⟩:=h
   obtain⟨a,b,h3,h4⟩:=gI h2
   exact⟨_,h3,fun ar k2 h=>⟨fun _ _ h=>by simp at h,hm,h1,h4 (fun a b=>k2 .aj ar) h⟩⟩
  |sl n cs=>
   rw[hx]at h
   obtain⟨e,sz,h1,h2,h3⟩:=h
   obtain⟨a,b,h4,h5⟩:=gI h3
   exact⟨_,h4,fun ar k2 h=>⟨fun _ _ h=>by simp at h,hm,e,sz,h1,h2,h5 (fun a b=>k2 (.sl (b-a) ((cs.drop (a*sz)).take ((b-a)*sz))) ar) h⟩⟩
  |av i off n sz=>
   rw[hx]at h
   obtain⟨e,h1,h2,h3⟩:=h
   obtain⟨a,b,h4,h5⟩:=gI h3
   exact⟨_,h4,fun ar k2 h=>⟨fun _ _ h=>by simp at h,hm,e,h1,h2,h5 (fun a b=>k2 (.av i (off+a*sz) (b-a) sz) ar) h⟩⟩
  |ref i off=>exact absurd hx (bw i off)
  |_=>rw[hx]at h;exact False.elim h
 case call q=>
  obtain⟨callee,args,ts⟩:=q
  cases callee with
  |value f=>
   simp only at h⊢
   cases hf:ax s f with
   |fn fn cap=>
    rw[hf]at h
    cases fn with
    |func f'=>obtain⟨r,h1,h2,h3⟩:=h;exact⟨r,h3,fun ar k2 h=>⟨r,h1,h2,h⟩⟩
    |_=>exact False.elim h
   |_=>rw[hf]at h;exact False.elim h
  |_=>exact False.elim h
theorem OI(h:bB P op s rows k):bF P true op id s rows k:=by
 cases op<;>simp only[bB]at h<;>(try(exact h.elim))<;>simp only[bF]
 case load t a=>
  cases ha:ax s a with
  |aL cs=>rw[ha]at h;exact h
  |_=>rw[ha]at h;exact h.elim
 case slice t x lo hi mx=>exact h.2
 case call q=>
  obtain⟨callee,args,ts⟩:=q
  cases callee with
  |value f=>
   simp only at h⊢
   cases hf:ax s f with
   |fn fn cap=>
    rw[hf]at h
    cases fn with
    |func f'=>obtain⟨r,h1,h2,h3⟩:=h;exact .inl (.inr ⟨r,h1,h2,h3⟩)
    |_=>exact False.elim h
   |_=>rw[hf]at h;exact False.elim h
  |_=>exact False.elim h
theorem LZ(ho: ∀x∈op.operands,ax s x=ax s2 x)(h:bB P op s rows k):bB P op s2 rows k:=by
 have JB: ∀xs:List Operand,(∀x∈xs,ax s x=ax s2 x)→xs.map (ax s)=xs.map (ax s2):=fun xs hx=>arI hx
 cases op<;>simp only[bB]at h⊢ <;>(try(exact h.elim))<;>simp only[Op.operands]at ho
 case load t a=>rw[←ho a (by simp)];exact h
 case slice t x lo hi mx=>
  have e0:=ho x (by simp)
  have e1:lo.map (ax s)=lo.map (ax s2):=by cases lo<;>simp_all
  have e2:hi.map (ax s)=hi.map (ax s2):=by cases hi<;>simp_all
  have e3:mx.map (ax s)=mx.map (ax s2):=by cases mx<;>simp_all
  rw[←e0,←e1,←e2,←e3];exact h
 case call q=>
  obtain⟨callee,args,ts⟩:=q
  cases callee with
  |value f=>
   simp only at h⊢
   rw[←JB args.toList fun x hx=>ho x (by simp[Call.operands];exact .inr (by simpa using hx)),←ho f (by simp[Call.operands])]
   exact h
  |_=>exact False.elim h
theorem qE{k2:KV}(hk: ∀v r,k v r→k2 v r)(h:bF P true op id s rows k):bF P true op id s rows k2:=by
 obtain⟨v,r,h1,h2⟩:=GG h
 exact h2 k2 (hk v r h1)
theorem qF(h:bx P op s rows k): ∃v ad,k v ad∧rows.length≤ad.length∧ ∀k2:KV,k2 v ad→bx P op s rows k2:=by
 unfold bx at h⊢
 split at h
 ·split at h
  ·split at h
   ·obtain⟨m,gY,fk,r1,eU,r,ad,h1,h2,h3,h4,h5,h6,h7⟩:=h
    exact⟨r,ad,h7,by have:=h5.len;omega,fun k2 hk=>⟨m,gY,fk,r1,eU,r,ad,h1,h2,h3,h4,h5,h6,hk⟩⟩
   ·exact h.elim
  ·exact h.elim
 ·exact h.elim
theorem DX(h:bx P op s rows k):bF P false op id s rows k:=by
 unfold bx at h
 split at h
 ·rename_i c
  split at h
  ·rename_i f hc
   split at h
   ·rename_i f' cap hf
    simp only[bF,hc,hf,mh]
    exact .inr ⟨trivial,nM h⟩
   ·exact h.elim
  ·exact h.elim
 ·exact h.elim
theorem qq(ho: ∀x∈op.operands,ax s x=ax s2 x)(h:bx P op s rows k):bx P op s2 rows k:=by
 cases op<;>simp only[bx]at h⊢ <;>(try(exact h.elim))
 rename_i q
 obtain⟨callee,args,ts⟩:=q
 cases callee with
 |value f=>
  simp only at h⊢
  have hf:ax s f=ax s2 f:=ho f (by simp[Op.operands,Call.operands])
  have ha:args.toList.map (ax s)=args.toList.map (ax s2):=arI fun x hx=>ho x (by simp[Op.operands,Call.operands];exact .inr (by simpa using hx))
  rw[←hf,←ha]
  exact h
 |_=>exact h.elim
theorem gJ(h:hU P F op s rows k): ∃v,k v rows∧ ∀ar (k2:KV),k2 v ar→hU P F op s ar k2:=by
 obtain⟨v,h1,h2⟩:=h
 exact⟨v,h2,fun ar k2 hk=>⟨v,h1,hk⟩⟩
theorem BH(ho: ∀x∈op.operands,ax s x=ax s2 x)(h:hU P F op s rows k):hU P F op s2 rows k:=by
 obtain⟨v,h1,h2⟩:=h
 exact⟨v,fun ar hF=>mB ho (h1 ar hF),h2⟩
theorem bW.more{F:List (Nat×Nat×V)}{rows news:List Row}(h:bW F rows):bW F (rows++news):=fun p hp=>by
 obtain⟨cs,h1,h2⟩:=h p hp
 exact⟨cs,by rw[ap7 (apN.1 h1).1];exact h1,h2⟩
theorem rR(hk:dA op=1)(h:bF P true op id s rows k): ∃v cs,dB rows id∧k v (da rows id (.live cs))∧ ∀(ar:List Row) (k2:KV),dB ar id→k2 v (da ar id (.live cs))→bF P true op id s ar k2:=by
 cases op<;>simp only[dA]at hk<;>(try(exact absurd hk (by decide)))<;>simp only[bF]at h⊢
 case alloc e=>
  obtain⟨z,h1,h2,h3⟩:=h
  exact⟨_,z,h2,h3,fun ar k2 hf h=>⟨z,h1,hf,h⟩⟩
 case box e v=>
  obtain⟨vs,h1,h2,h3⟩:=h
  exact⟨_,vs,h2,h3,fun ar k2 hf h=>⟨vs,h1,hf,h⟩⟩
 case buildSlice t n parts=>
  obtain⟨e,sz,z,h1,h2,h3,h4,h5,h6,h7⟩:=h
  obtain⟨ds,h8,h9⟩:=rS h7
  exact⟨_,ds,h6,h8,fun ar k2 hf h=>⟨e,sz,z,h1,h2,h3,h4,h5,hf,h9 _ h⟩⟩
 case makeSlice t l q=>
  generalize ax s l=vl at h
  generalize ax s q=vq at h
  cases vl with
  |int k1 l=>
   cases vq with
   |int k2 q=>
    obtain⟨e,sz,db,z,h1,h2,h3,h4,h5,h6,h7,h8,h9,Vt,ZK⟩:=h
    exact⟨_,_,Vt,ZK,fun ar k2 hf h=>⟨e,sz,db,z,h1,h2,h3,h4,h5,h6,h7,h8,h9,hf,h⟩⟩
   |_=>exact False.elim h
  |_=>exact False.elim h
 all_goals
  split at hk<;>exact absurd hk (by decide)
theorem df:cp P F 0 op id s rows k↔bF P true op id s rows fun v r=>(dA op=3→bW F r)∧k v r:=Iff.rfl
theorem kN:cp P F 2 op id s rows k↔bx P op s rows fun v r=>bW F r∧k v r:=Iff.rfl
theorem BI(hF:bW F rows)(h:cp P F m op id s rows k):cp P F m op id s rows fun v r=>k v r∧bW F r:=by
 match m with
 |0=>
  by_cases hk:dA op=3
  ·exact df.2 (qE (fun v r h=>⟨h.1,h.2,h.1 hk⟩) (df.1 h))
  ·obtain⟨v,e,h1,h2,h3,-⟩:=uL hk (df.1 h)
   exact df.2 (h3 _ ⟨h1.1,h1.2,hF.dM fun he=>(h2 he).1⟩)
 |1=>
  obtain⟨v,h1,h2⟩:=o9 (show bB P op s rows k from h)
  exact h2 rows (fun v r=>k v r∧bW F r) ⟨h1,hF⟩
 |2=>
  obtain⟨v,r,h1,-,h2⟩:=qF (kN.1 h)
  exact kN.2 (h2 _ ⟨h1.1,h1.2,h1.1⟩)
 |3=>
  obtain⟨v,h1,h2⟩:=gJ (show hU P F op s rows k from h)
  exact h2 rows (fun v r=>k v r∧bW F r) ⟨h1,hF⟩
 |4=>
  obtain⟨news,v,h1,h2⟩:=(show mA P op s rows k from h)
  exact(show mA P op s rows (fun v r=>k v r∧bW F r)from⟨news,v,h1,h2,hF.more⟩)
 |n+5=>
  obtain⟨v,h1,h2⟩:=gJ (show hU P F op s rows k from h)
  exact h2 rows (fun v r=>k v r∧bW F r) ⟨h1,hF⟩
theorem mC(hF:bW F rows)(h:cp P F m op id s rows k): ∃draw jV,bF P draw op jV s rows k:=by
 match m with
 |0=>exact⟨true,id,qE (fun v r h=>h.2) (df.1 h)⟩
 |1=>exact⟨true,id,OI h⟩
 |2=>
  obtain⟨v,r,h1,-,h2⟩:=qF (kN.1 h)
  exact⟨false,id,DX (h2 k h1.2)⟩
 |3=>
  obtain⟨v,h1,h2⟩:=(show hU P F op s rows k from h)
  exact⟨true,0,qE (fun v' r' ⟨e1,e2⟩=>by subst e1;subst e2;exact h2) (h1 rows hF)⟩
 |4=>
  obtain⟨news,v,h1,h2⟩:=(show mA P op s rows k from h)
  exact⟨false,id,DX (h1 rows k rfl h2)⟩
 |n+5=>
  obtain⟨v,h1,h2⟩:=(show hU P F op s rows k from h)
  exact⟨true,0,qE (fun v' r' ⟨e1,e2⟩=>by subst e1;subst e2;exact h2) (h1 rows hF)⟩
theorem kO(h:cp P F m op id s rows k): ∃v ad,k v ad∧ ∀k2:KV,k2 v ad→cp P F m op id s rows k2:=by
 match m with
 |0=>
  obtain⟨v,r,h1,h2⟩:=GG (df.1 h)
  exact⟨v,r,h1.2,fun k2 hk=>df.2 (h2 _ ⟨h1.1,hk⟩)⟩
 |1=>obtain⟨v,h1,h2⟩:=o9 (show bB P op s rows k from h);exact⟨v,rows,h1,fun k2 h=>h2 rows k2 h⟩
 |2=>
  obtain⟨v,r,h1,-,h2⟩:=qF (kN.1 h)
  exact⟨v,r,h1.2,fun k2 hk=>kN.2 (h2 _ ⟨h1.1,hk⟩)⟩
 |3=>obtain⟨v,h1,h2⟩:=gJ (show hU P F op s rows k from h);exact⟨v,rows,h1,fun k2 h=>h2 rows k2 h⟩
 |4=>
  obtain⟨news,v,h1,h2⟩:=(show mA P op s rows k from h)
  exact⟨v,rows++news,h2,fun k2 hk=>(show mA P op s rows k2 from⟨news,v,h1,hk⟩)⟩
 |n+5=>obtain⟨v,h1,h2⟩:=gJ (show hU P F op s rows k from h);exact⟨v,rows,h1,fun k2 h=>h2 rows k2 h⟩
theorem iD(ho: ∀x∈op.operands,ax s x=ax s2 x)(h:cp P F m op id s rows k):cp P F m op id s2 rows k:=by
 match m with
 |0=>exact mB (k:=fun v r=>(dA op=3→bW F r)∧k v r) ho h
 |1=>exact LZ ho h
 |2=>exact qq (k:=fun v r=>bW F r∧k v r) ho h
 |3=>exact BH ho h
 |4=>
  obtain⟨news,v,h1,h2⟩:=(show mA P op s rows k from h)
  exact(show mA P op s2 rows k from⟨news,v,fun ar k2 e hk=>qq ho (h1 ar k2 e hk),h2⟩)
 |n+5=>exact BH ho h
theorem DY(hk:dy m op=0)(h:cp P F m op id s rows k): ∃v,k v rows∧ ∀mN ar (k2:KV),k2 v ar→cp P F m op mN s ar k2:=by
 match m with
 |0=>
  have DL:dA op=0:=hk
  obtain⟨v,h1,h2⟩:=GH DL (df.1 h)
  exact⟨v,h1.2,fun mN ar k2 nA=>h2 mN ar (fun v r=>(dA op=3→bW F r)∧k2 v r) ⟨fun h3=>by omega,nA⟩⟩
 |1=>obtain⟨v,h1,h2⟩:=o9 (show bB P op s rows k from h);exact⟨v,h1,fun _ ar k2 h=>h2 ar k2 h⟩
 |2=>exact absurd (show(3:Nat)=0 from hk) (by omega)
 |3=>obtain⟨v,h1,h2⟩:=gJ (show hU P F op s rows k from h);exact⟨v,h1,fun _ ar k2 h=>h2 ar k2 h⟩
 |4=>exact absurd (show(3:Nat)=0 from hk) (by omega)
 |n+5=>obtain⟨v,h1,h2⟩:=gJ (show hU P F op s rows k from h);exact⟨v,h1,fun _ ar k2 h=>h2 ar k2 h⟩
theorem DZ(hk:dy m op≠3)(h:cp P F m op id s rows k):
  ∃v e,k v (dM rows id e)∧(e≠none→dB rows id∧cJ P op=true)∧(∀k2:KV,k2 v (dM rows id e)→cp P F m op id s rows k2)∧
   (∀(c:Ctx) (ar:List Row) (w:World) (ro:Nat→Prop) (ρ:bP),kP rows ar→(e≠none→dB ar id)→Good c ar w ro ρ→(∀x∈op.operands,∃u,Rd w ro ρ u (ax s x))→ ∀k2:KV,k2 v (dM ar id e)→cp P F m op id s ar k2):=by
 match m with
 |0=>
  have DL:dA op≠3:=hk
  obtain⟨v,e,h1,h2,h3,h4⟩:=uL DL (df.1 h)
  exact⟨v,e,h1.2,h2,fun k2 nA=>df.2 (h3 _ ⟨fun h=>absurd h DL,nA⟩),fun c ar w ro ρ q1 q2 q3 q4 k2 nA=>df.2 (h4 c ar w ro ρ q1 q2 q3 q4 _ ⟨fun h=>absurd h DL,nA⟩)⟩
 |1=>
  obtain⟨v,h1,h2⟩:=o9 (show bB P op s rows k from h)
  exact⟨v,none,h1,fun h=>absurd rfl h,fun k2 h=>h2 rows k2 h,fun _ ar _ _ _ _ _ _ _ k2 h=>h2 ar k2 h⟩
 |2=>exact absurd rfl hk
 |3=>
  obtain⟨v,h1,h2⟩:=gJ (show hU P F op s rows k from h)
  exact⟨v,none,h1,fun h=>absurd rfl h,fun k2 h=>h2 rows k2 h,fun _ ar _ _ _ _ _ _ _ k2 h=>h2 ar k2 h⟩
 |4=>exact absurd rfl hk
 |n+5=>
  obtain⟨v,h1,h2⟩:=gJ (show hU P F op s rows k from h)
  exact⟨v,none,h1,fun h=>absurd rfl h,fun k2 h=>h2 rows k2 h,fun _ ar _ _ _ _ _ _ _ k2 h=>h2 ar k2 h⟩
theorem zj(hid:cJ P op=true→id<rows.length)(h:cp P F m op id s rows k):cp P F m op id s rows fun v r=>k v r∧rows.length≤r.length:=by
 match m with
 |0=>exact df.2 (qE (fun v r h=>⟨h.1.1,h.1.2,Nat.le_of_eq h.2.symm⟩) (T5 hid (df.1 h)))
 |1=>obtain⟨v,h1,h2⟩:=o9 (show bB P op s rows k from h);exact h2 rows (fun v r=>k v r∧rows.length≤r.length) ⟨h1,aqf _⟩
 |2=>
  obtain⟨v,r,h1,h2,h3⟩:=qF (kN.1 h)
  exact kN.2 (h3 _ ⟨h1.1,h1.2,h2⟩)
 |3=>obtain⟨v,h1,h2⟩:=gJ (show hU P F op s rows k from h);exact h2 rows (fun v r=>k v r∧rows.length≤r.length) ⟨h1,aqf _⟩
 |4=>
  obtain⟨news,v,h1,h2⟩:=(show mA P op s rows k from h)
  exact(show mA P op s rows (fun v r=>k v r∧rows.length≤r.length)from⟨news,v,h1,h2,by simp⟩)
 |n+5=>obtain⟨v,h1,h2⟩:=gJ (show hU P F op s rows k from h);exact h2 rows (fun v r=>k v r∧rows.length≤r.length) ⟨h1,aqf _⟩
end
def cP(P:Program)(F:List (Nat×Nat×V))(mk:Nat→Nat)(ops:Array Oper)(bl:Nat→Nat)(i:Nat)(K:KS):KS:=fun s rows=>
 match ops[i]? with
 |none=>K s rows
 |some o=>kg ops o.guard s (cp P F (mk i) o.op (bl i) s rows fun v r=>K (aD s o.dst v) r) (K (aD s o.dst .aa) rows)
def dP(P:Program)(F:List (Nat×Nat×V))(mk:Nat→Nat)(ops:Array Oper)(bl:Nat→Nat):List Nat→KS→KS
 |[],K=>K
 |i::is,K=>cP P F mk ops bl i (dP P F mk ops bl is K)
section
variable {P : Program} {F : List (Nat × Nat × V)} {mk : Nat → Nat} {ops : Array Oper} {bl : Nat → Nat} {s s2 : List V} {rows ar : List Row} {K : KS}
theorem eG{x y:Option Tmp}{v u:V}(h: ∀d,x=some d→y≠some d):aD (aD s x v) y u=aD (aD s y u) x v:=by
 cases x with
 |none=>rfl
 |some d=>
  cases y with
  |none=>rfl
  |some e=>
   have bw:d≠e:=fun he=>h d rfl (he▸rfl)
   simp only[aD,lf]
   exact aro _ _ bw
theorem qG{d t:Nat}{v:V}(h:d≠t):bL (sset s d v) t=bL s t:=by
 rw[gb,gb,lf,ap6 h]
theorem zk{dst:Option Tmp}{v:V}{x:Operand}(h: ∀d,dst=some d→x≠.tmp d):ax (aD s dst v) x=ax s x:=by
 cases dst with
 |none=>rfl
 |some d=>
  cases x with
  |tmp t=>exact qG fun e=>h d rfl (e▸rfl)
  |_=>rfl
theorem q7{o:Oper}{x:Operand}{d:Nat}(hx:x∈o.op.operands)(h:x=.tmp d):d∈o.looksAt ops:=by
 subst h
 exact aqw _ (List.mem_filterMap.2 ⟨.tmp d,by simpa using hx,rfl⟩)
theorem zl{o:Oper}{dst:Option Tmp}{v:V}(h: ∀d,dst=some d→d∉o.looksAt ops):cV ops o.guard (aD s dst v)=cV ops o.guard s:=by
 cases dst with
 |none=>rfl
 |some d=>
  unfold cV
  cases hg:o.guard with
  |none=>rfl
  |some gw=>
   obtain⟨j,want⟩:=gw
   simp only
   cases hd:(ops[j]?).bind (·.dst)with
   |none=>rfl
   |some t=>
    have bw:d≠t:=fun e=>h d rfl (by subst e;simp[Oper.looksAt,hg,hd])
    simp only[aD,qG bw]
def fA(ops:Array Oper)(o:Oper)(s s2:List V):Prop:=cV ops o.guard s=cV ops o.guard s2∧ ∀x∈o.op.operands,ax s x=ax s2 x
theorem bp{o:Oper}{dst:Option Tmp}{v:V}(h: ∀d,dst=some d→d∉o.looksAt ops):fA ops o (aD s dst v) s:=
 ⟨zl h,fun x hx=>zk fun d hd he=>h d hd (q7 hx he)⟩
theorem fA.symm{o:Oper}(h:fA ops o s s2):fA ops o s2 s:=⟨h.1.symm,fun x hx=>(h.2 x hx).symm⟩
theorem bc{i:Nat}{o:Oper}(ho:ops[i]?=some o):cP P F mk ops bl i K s rows↔
  (cV ops o.guard s=some true∧cp P F (mk i) o.op (bl i) s rows fun v r=>K (aD s o.dst v) r)∨(cV ops o.guard s=some false∧K (aD s o.dst .aa) rows):=by
 unfold cP
 simp only[ho]
 exact fm
theorem Wf.skip{o:Oper}(h:Wf P F s rows):Wf P F (aD s o.dst .aa) rows:=by
 obtain⟨⟨c,a,w,go,ro,ρ,g,hs⟩,hF⟩:=h
 exact⟨⟨c,a.put o.dst undef,w,go,ro,ρ,g,hs.put .aa o.dst⟩,hF⟩
theorem Wf.step{o:Oper}{m:Nat}{id:Nat}{v:V}{ad:List Row}(h:Wf P F s rows)(hr:cp P F m o.op id s rows fun a b=>a=v∧b=ad):Wf P F (aD s o.dst v) ad:=by
 obtain⟨⟨c,a,w,go,ro,ρ,g,hs⟩,hF⟩:=h
 obtain⟨draw,jV,tu⟩:=mC hF (BI hF hr)
 have hd:=rT (o:=o) go hs g tu
 have use: ∀u w',lU c (fun a b=>(a=v∧b=ad)∧bW F b) w ro ρ u w'→Wf P F (aD s o.dst v) ad:=by
  rintro u w' ⟨r,rs,aY,ρ',⟨⟨rfl,rfl⟩,D0⟩,h2,h3,h4⟩
  exact⟨⟨c,a.put o.dst u,w',go,aY,ρ',h2,(hs.ext h4).put h3 o.dst⟩,D0⟩
 generalize(execOp a.eval o).run P w=res at hd
 cases res with
 |halt x w'=>exact hd.elim
 |ok n w'=>
  cases n<;>try exact hd.elim
  case value u=>exact use u w' hd
  case skip=>exact use undef w' hd
  case enter f args=>
   obtain⟨e,lV,fr,⟨u,-,dN⟩,-⟩:=hd []
   exact use u lV dN
  case round l f tmps as bo=>
   obtain⟨e,lV,⟨u,-,dN⟩,-⟩:=hd.2 default [] (room_wide _)
   exact use u lV dN
theorem gS{i:Nat}{o:Oper}(ho:ops[i]?=some o)(hw:Wf P F s rows)(h:cP P F mk ops bl i K s rows):
  ∃v ad,K (aD s o.dst v) ad∧Wf P F (aD s o.dst v) ad∧ ∀(s2:List V) (K2:KS),fA ops o s s2→K2 (aD s2 o.dst v) ad→cP P F mk ops bl i K2 s2 rows:=by
 rcases(bc ho).1 h with⟨hg,h⟩|⟨hg,h⟩
 ·obtain⟨v,ad,h1,h2⟩:=kO h
  refine⟨v,ad,h1,hw.step (h2 (fun a b=>a=v∧b=ad) ⟨rfl,rfl⟩),fun s2 K2 hl hk=>(bc ho).2 (.inl ⟨hl.1▸hg,?_⟩)⟩
  exact iD hl.2 (h2 (fun v r=>K2 (aD s2 o.dst v) r) hk)
 ·exact⟨.aa,rows,h,hw.skip,fun s2 K2 hl hk=>(bc ho).2 (.inr ⟨hl.1▸hg,hk⟩)⟩
theorem lW{i:Nat}{K2:KS}(hk: ∀s rows,Wf P F s rows→K s rows→K2 s rows)(hw:Wf P F s rows)(h:cP P F mk ops bl i K s rows):cP P F mk ops bl i K2 s rows:=by
 cases ho:ops[i]? with
 |none=>
  unfold cP at h⊢
  simp only[ho]at h⊢
  exact hk s rows hw h
 |some o=>
  obtain⟨v,ad,h1,h2,h3⟩:=gS ho hw h
  exact h3 s K2 ⟨rfl,fun _ _=>rfl⟩ (hk _ _ h2 h1)
theorem qH{i:Nat}{o:Oper}(ho:ops[i]?=some o)(hk:dy (mk i) o.op≠3)(h:cP P F mk ops bl i K s rows):
  ∃v e,K (aD s o.dst v) (dM rows (bl i) e)∧(e≠none→dB rows (bl i)∧cJ P o.op=true)∧
   ∀(s2:List V) (ar:List Row) (K2:KS),fA ops o s s2→kP rows ar→(e≠none→dB ar (bl i))→Wf P F s2 ar→K2 (aD s2 o.dst v) (dM ar (bl i) e)→cP P F mk ops bl i K2 s2 ar:=by
 rcases(bc ho).1 h with⟨hg,h⟩|⟨hg,h⟩
 ·obtain⟨v,e,h1,h2,-,h3⟩:=DZ hk h
  refine⟨v,e,h1,h2,fun s2 ar K2 hl zm ZL ZM qI=>(bc ho).2 (.inl ⟨hl.1▸hg,?_⟩)⟩
  obtain⟨⟨c,a,w,go,ro,ρ,g,hs⟩,-⟩:=ZM
  exact iD hl.2 (h3 c ar w ro ρ zm ZL g (fun x hx=>⟨_,by rw[hl.2 x hx];exact hs.eval x⟩) (fun v r=>K2 (aD s2 o.dst v) r) qI)
 ·exact⟨.aa,none,h,fun h=>absurd rfl h,fun s2 ar K2 hl _ _ _ qI=>(bc ho).2 (.inr ⟨hl.1▸hg,qI⟩)⟩
theorem qJ{i:Nat}{o:Oper}(ho:ops[i]?=some o)(hk:dy (mk i) o.op=0)(h:cP P F mk ops bl i K s rows):
  ∃v,K (aD s o.dst v) rows∧ ∀(s2:List V) (ar:List Row) (K2:KS),fA ops o s s2→K2 (aD s2 o.dst v) ar→cP P F mk ops bl i K2 s2 ar:=by
 rcases(bc ho).1 h with⟨hg,h⟩|⟨hg,h⟩
 ·obtain⟨v,h1,h2⟩:=DY hk h
  exact⟨v,h1,fun s2 ar K2 hl qI=>(bc ho).2 (.inl ⟨hl.1▸hg,iD hl.2 (h2 (bl i) ar (fun v r=>K2 (aD s2 o.dst v) r) qI)⟩)⟩
 ·exact⟨.aa,h,fun s2 ar K2 hl qI=>(bc ho).2 (.inr ⟨hl.1▸hg,qI⟩)⟩
theorem zn{id:Nat}{e:Option (List V)}(hf:e≠none→rows[id]?=some .bu):kP rows (dM rows id e):=by
 intro j cs hj
 cases e with
 |none=>exact .inl hj
 |some ds=>
  have hr:=hf (by simp)
  left
  simp only[dM]
  rw[bH (aqx (apN.1 hr).1),if_neg]
  ·exact hj
  ·rintro rfl;rw[hr]at hj;simp at hj
theorem xB{id:Nat}{e:Option (List V)}(hf:e≠none→rows[id]?=some .bu):kP (dM rows id e) rows:=by
 intro j cs hj
 cases e with
 |none=>exact .inl hj
 |some ds=>
  have hr:=hf (by simp)
  simp only[dM]at hj
  rw[bH (aqx (apN.1 hr).1)]at hj
  split at hj
  ·rename_i e;subst e;exact .inr hr
  ·exact .inl hj
theorem dQ{α:Type}{l:List α}{id:Nat}{x:α}(h:id<l.length):da l id x=l.set id x:=if_neg (by omega)
theorem uM{i j:Nat}{oi oj:Oper}(hi:ops[i]?=some oi)(hj:ops[j]?=some oj)(JC:oi.apart ops oj=true)(hk:dy (mk i) oi.op=3→dy (mk j) oj.op=0∨mk i=4∧mk j=0∧dA oj.op=1)(zo:dy (mk j) oj.op=3→dy (mk i) oi.op=0)
  (hid: ∀(k:Nat) o,ops[k]?=some o→cJ P o.op=true→bl k<rows.length) (hw:Wf P F s rows) (h:cP P F mk ops bl i (cP P F mk ops bl j K) s rows):cP P F mk ops bl j (cP P F mk ops bl i K) s rows:=by
 obtain⟨a1,a2,a3⟩:=Oper.apart_spec JC
 by_cases lX:dy (mk i) oi.op=3
 ·
  rcases hk lX with DL|⟨m4,m0,k1⟩
  rotate_left 1
  ·rcases(bc hi).1 h with⟨hg,h⟩|⟨hg,h⟩
   ·rw[m4]at h
    obtain⟨news,vi,h1,h2⟩:=(show mA P oi.op s rows _ from h)
    rcases(bc hj).1 h2 with⟨tv,h2⟩|⟨tv,h2⟩
    ·rw[m0]at h2
     obtain⟨vj,cs,hf,h3,h4⟩:=rR k1 (df.1 h2)
     have aO:bl j<rows.length:=hid j oj hj (by cases wx:oj.op<;>rw[wx]at k1<;>simp[dA]at k1<;>(try rfl)<;>(split at k1<;>simp at k1))
     have gD:rows[bl j]?=some .bu:=by
      rcases hf with hf|hf
      ·simp at hf;omega
      ·rwa[ap7 aO]at hf
     have oz:=bp (ops:=ops) (s:=s) (v:=vi) a1
     have pa:=bp (ops:=ops) (s:=s) (v:=vj) a3
     refine(bc hj).2 (.inl ⟨by rw[←oz.1];exact tv,?_⟩)
     rw[m0]
     refine df.2 (mB oz.2 (h4 rows _ (.inr gD) ⟨fun e=>by omega,?_⟩))
     refine(bc hi).2 (.inl ⟨by rw[pa.1];exact hg,?_⟩)
     rw[m4]
     refine(show mA P oi.op _ _ _ from⟨news,vi,fun ar k2 e hk=>qq pa.symm.2 (h1 ar k2 (by rw[e,iE,if_neg (by omega)]) hk),?_⟩)
     dsimp only
     rw[eG (fun d hd he=>a2 d he hd)]
     have e:da (rows++news) (bl j) (.live cs)=da rows (bl j) (.live cs)++news:=by
      rw[dQ aO,dQ (by simp;omega),List.set_append_left _ _ aO]
     rw[←e]
     exact h3.2
    ·have oz:=bp (ops:=ops) (s:=s) (v:=vi) a1
     have pa:=bp (ops:=ops) (s:=s) (v:=V.aa) a3
     refine(bc hj).2 (.inr ⟨by rw[←oz.1];exact tv,(bc hi).2 (.inl ⟨by rw[pa.1];exact hg,?_⟩)⟩)
     rw[m4]
     refine(show mA P oi.op _ _ _ from⟨news,vi,fun ar k2 e hk=>qq pa.symm.2 (h1 ar k2 e hk),?_⟩)
     dsimp only
     rw[eG (fun d hd he=>a2 d he hd)]
     exact h2
   ·rcases(bc hj).1 h with⟨tv,h2⟩|⟨tv,h2⟩
    ·rw[m0]at h2
     obtain⟨vj,cs,hf,h3,h4⟩:=rR k1 (df.1 h2)
     have oz:=bp (ops:=ops) (s:=s) (v:=V.aa) a1
     have pa:=bp (ops:=ops) (s:=s) (v:=vj) a3
     refine(bc hj).2 (.inl ⟨by rw[←oz.1];exact tv,?_⟩)
     rw[m0]
     refine df.2 (mB oz.2 (h4 rows _ hf ⟨fun e=>by omega,?_⟩))
     refine(bc hi).2 (.inr ⟨by rw[pa.1];exact hg,?_⟩)
     rw[eG (fun d hd he=>a2 d he hd)]
     exact h3.2
    ·have oz:=bp (ops:=ops) (s:=s) (v:=V.aa) a1
     have pa:=bp (ops:=ops) (s:=s) (v:=V.aa) a3
     refine(bc hj).2 (.inr ⟨by rw[←oz.1];exact tv,(bc hi).2 (.inr ⟨by rw[pa.1];exact hg,?_⟩)⟩)
     rw[eG (fun d hd he=>a2 d he hd)]
     exact h2
  obtain⟨vi,ri,h1,Rb,h2⟩:=gS hi hw h
  obtain⟨vj,h3,h4⟩:=qJ hj DL h1
  refine h4 s rows _ (bp a1) (h2 _ _ (bp a3).symm ?_)
  rw[eG (fun d hd he=>a2 d he hd)]
  exact h3
 by_cases Rc:dy (mk j) oj.op=3
 ·obtain⟨vi,h1,h2⟩:=qJ hi (zo Rc) h
  have Rb:Wf P F (aD s oi.dst vi) rows:=by
   obtain⟨v',r',q1,q2,-⟩:=gS (K:=fun s' r'=>s'=aD s oi.dst vi∧r'=rows) hi hw (h2 s rows _ ⟨rfl,fun _ _=>rfl⟩ ⟨rfl,rfl⟩)
   rw[q1.1,q1.2]at q2
   exact q2
  obtain⟨vj,rj,h3,-,h4⟩:=gS hj Rb h1
  refine h4 s _ (bp a1) (h2 _ _ _ (bp a3).symm ?_)
  rw[eG (fun d hd he=>a2 d he hd)]
  exact h3
 ·obtain⟨vi,ei,h1,f1,h2⟩:=qH hi lX h
  obtain⟨vj,ej,h3,f3,h4⟩:=qH hj Rc h1
  have fR:ei≠none→rows[bl i]?=some .bu:=fun he=>by
   obtain⟨q1,q2⟩:=f1 he
   have:=hid i oi hi q2
   rcases q1 with q1|q1
   ·omega
   ·exact q1
  have hlen:(dM rows (bl i) ei).length=rows.length:=by
   cases ei with
   |none=>rfl
   |some cs=>
    have:=fR (by simp)
    have:=(apN.1 this).1
    simp only[dM,iE]
    rw[if_neg (by omega)]
  have bw:ei≠none→ej≠none→bl i≠bl j:=by
   intro ZN ZO e
   cases ei with
   |none=>exact ZN rfl
   |some cs=>
    obtain⟨q1,q2⟩:=f3 ZO
    have:=hid j oj hj q2
    rw[←e]at q1 this
    have hr:=fR (by simp)
    rcases q1 with q1|q1
    ·rw[hlen]at q1;omega
    ·simp only[dM]at q1
     rw[bH (aqx this),if_pos rfl]at q1
     simp at q1
  have D1:ej≠none→rows[bl j]?=some .bu:=fun he=>by
   obtain⟨q1,q2⟩:=f3 he
   have aO:=hid j oj hj q2
   rcases q1 with q1|q1
   ·rw[hlen]at q1;omega
   ·cases ei with
    |none=>exact q1
    |some cs=>
     simp only[dM]at q1
     rw[bH (aqx (apN.1 (fR (by simp))).1),if_neg (fun e=>bw (by simp) he e.symm)]at q1
     exact q1
  have rU: ∀K2:KS,K2 (aD s oj.dst vj) (dM rows (bl j) ej)→cP P F mk ops bl j K2 s rows:=fun K2 nA=>
   h4 s rows K2 (bp a1) (xB fR) (fun he=>.inr (D1 he)) hw nA
  have ZP:Wf P F (aD s oj.dst vj) (dM rows (bl j) ej):=by
   obtain⟨v',r',q1,q2,-⟩:=gS (K:=fun s' r'=>s'=aD s oj.dst vj∧r'=dM rows (bl j) ej) hj hw (rU _ ⟨rfl,rfl⟩)
   rw[q1.1,q1.2]at q2
   exact q2
  refine rU _ (h2 _ _ _ (bp a3).symm (zn D1) (fun he=>?_) ZP ?_)
  ·right
   cases ej with
   |none=>exact fR he
   |some cs=>
    simp only[dM]
    rw[bH (aqx (apN.1 (D1 (by simp))).1),if_neg (bw he (by simp))]
    exact fR he
  ·rw[eG (fun d hd he=>a2 d he hd)]
   have hc:dM (dM rows (bl i) ei) (bl j) ej=dM (dM rows (bl j) ej) (bl i) ei:=by
    cases ei with
    |none=>rfl
    |some ci=>
     cases ej with
     |none=>rfl
     |some cj=>
      have q1:=(apN.1 (fR (by simp))).1
      have q2:=(apN.1 (D1 (by simp))).1
      simp only[dM]
      rw[dQ q1,dQ q2,dQ (by simpa using q2),dQ (by simpa using q1)]
      exact aro _ _ (bw (by simp) (by simp))
   rw[←hc]
   exact h3
def jD(mk:Nat→Nat)(ops:Array Oper)(i j:Nat):Bool:=
 match ops[i]?,ops[j]? with
 |some oi,some oj=>oi.apart ops oj&&(dy (mk i) oi.op !=3||dy (mk j) oj.op==0||(mk i==4&&mk j==0&&dA oj.op==1))&&(dy (mk j) oj.op !=3||dy (mk i) oi.op==0)
 |_,_=>false
def nY(ops:Array Oper):Array Nat:=Region.before ops
def jE(ops:Array Oper)(bs:Array Nat):Bool:=
 (List.range ops.size).all fun i=>match ops[i]? with
  |some o=>(o.after.all fun e=>!Region.binds .any e||e.on<i)&&
    (List.range i).all fun j=>!(bs.getD i 0).testBit j||o.after.any fun e=>Region.binds .any e&&(e.on==j||(decide (j<e.on)&&(bs.getD e.on 0).testBit j))
  |none=>true
def mD(mk:Nat→Nat)(ops:Array Oper)(bs:Array Nat):Bool:=
 jE ops bs&&(List.range ops.size).all fun i=>(List.range i).all fun j=>(bs.getD i 0).testBit j||jD mk ops j i
def indep(mk:Nat→Nat)(ops:Array Oper):Bool:=mD mk ops (nY ops)
theorem qs{i j:Nat}(h:jD mk ops i j=true): ∃oi oj,ops[i]?=some oi∧ops[j]?=some oj∧oi.apart ops oj=true∧(dy (mk i) oi.op=3→dy (mk j) oj.op=0∨mk i=4∧mk j=0∧dA oj.op=1)∧(dy (mk j) oj.op=3→dy (mk i) oi.op=0):=by
 unfold jD at h
 split at h
 ·rename_i oi oj h1 h2
  simp only[apP,aqe,bne_iff_ne,beq_iff_eq]at h
  refine⟨oi,oj,h1,h2,h.1.1,fun e=>?_,fun e=>h.2.resolve_left (fun h=>h e)⟩
  rcases h.1.2 with(h|h)|h
  ·exact absurd e h
  ·exact .inl h
  ·exact .inr ⟨h.1.1,h.1.2,h.2⟩
 ·simp at h
theorem lY{i:Nat}(hid: ∀(k:Nat) o,ops[k]?=some o→cJ P o.op=true→bl k<rows.length)(h:cP P F mk ops bl i K s rows):cP P F mk ops bl i (fun s' r'=>K s' r'∧rows.length≤r'.length) s rows:=by
 cases ho:ops[i]? with
 |none=>
  unfold cP at h⊢
  simp only[ho]at h⊢
  exact⟨h,aqf _⟩
 |some o=>
  rcases(bc ho).1 h with⟨hg,h⟩|⟨hg,h⟩
  ·exact(bc ho).2 (.inl ⟨hg,zj (hid i o ho) h⟩)
  ·exact(bc ho).2 (.inr ⟨hg,h,aqf _⟩)
theorem nC{i n:Nat}{l2:List Nat}(hid: ∀(k:Nat) o,ops[k]?=some o→cJ P o.op=true→bl k<n):
  ∀(l1:List Nat) (s:List V) (rows:List Row),n≤rows.length→(∀j∈l1,jD mk ops j i=true)→Wf P F s rows→dP P F mk ops bl (l1++i::l2) K s rows→cP P F mk ops bl i (dP P F mk ops bl (l1++l2) K) s rows
 |[],s,rows,_,_,_,h=>h
 |j::l1,s,rows,hl,hc,hw,h=>by
  obtain⟨oj,oi,hj,hi,q1,q2,q3⟩:=qs (hc j (by simp))
  have zp: ∀(k:Nat) o,ops[k]?=some o→cJ P o.op=true→bl k<rows.length:=fun k o h1 h2=>aqJ (hid k o h1 h2) hl
  refine uM hj hi q1 q2 q3 zp hw (lW (fun s' r' rA ⟨h1,h2⟩=>?_) hw (lY zp h))
  exact nC hid l1 s' r' (aqD hl h2) (fun k hk=>hc k (by simp[hk])) rA h1
structure tw (ops : Array Oper) (bs : Array Nat) : Prop where
 lt: ∀(i:Nat) o e,ops[i]?=some o→e∈o.after→Region.binds .any e=true→e.on<i
 step: ∀(i:Nat) o j,ops[i]?=some o→j<i→(bs.getD i 0).testBit j=true→ ∃e∈o.after,Region.binds .any e=true∧(e.on=j∨j<e.on∧(bs.getD e.on 0).testBit j=true)
theorem jL{bs:Array Nat}(h:jE ops bs=true):tw ops bs:=by
 simp only[jE,ap1,aqv]at h
 have at': ∀(i:Nat) o,ops[i]?=some o→((o.after.all fun e=>!Region.binds .any e||e.on<i)&&(List.range i).all fun j=>!(bs.getD i 0).testBit j||o.after.any fun e=>Region.binds .any e&&(e.on==j||(decide (j<e.on)&&(bs.getD e.on 0).testBit j)))=true:=by
  intro i o ho
  have:=h i (ap4.1 ho).1
  rw[ho]at this
  exact this
 refine⟨fun i o e ho he hb=>?_,fun i o j ho hj hb=>?_⟩
 ·have:=at' i o ho
  simp only[apP,Array.all_eq_true_iff_forall_mem,aqe,aqC,decide_eq_true_eq]at this
  exact(this.1 e he).resolve_left (fun h=>by rw[hb]at h;cases h)
 ·have:=at' i o ho
  simp only[apP,ap1,aqv,aqe,aqC]at this
  have h2:=(this.2 j hj).resolve_left (fun h=>by rw[hb]at h;cases h)
  obtain⟨e,he,h3⟩:=Array.any_eq_true'.1 h2
  simp only[apP,aqe,beq_iff_eq,decide_eq_true_eq]at h3
  exact⟨e,he,h3.1,h3.2⟩
def kj(ops:Array Oper)(listed:Array Bool):Prop:= ∀(i:Nat) o,ops[i]?=some o→listed.getD i true=true→ ∀e∈o.after,Region.binds .any e=true→listed.getD e.on false=true
theorem gh{bs:Array Nat}{listed:Array Bool}(hs:listed.size=ops.size)(hc:tw ops bs)(bZ:kj ops listed): ∀(i:Nat) o,ops[i]?=some o→(∀e∈o.after,Region.binds .any e=true→listed.getD e.on false=true)→
  ∀j,j<i→(bs.getD i 0).testBit j=true→listed.getD j false=true:=by
 intro i
 induction i using Nat.strongRecOn with
 |_ i ih=>
  intro o ho hp j hj hb
  obtain⟨e,he,h1,h2⟩:=hc.step i o j ho hj hb
  have aO:=hc.lt i o e ho he h1
  have hle:=hp e he h1
  rcases h2 with rfl|⟨Qo,h2⟩
  ·exact hle
  ·have cm:i<ops.size:=(ap4.1 ho).1
   have q8:e.on<ops.size:=by omega
   have xC:listed.getD e.on true=true:=by
    rw[aqu]at hle⊢
    have:e.on<listed.size:=by omega
    rw[aqs this]at hle⊢
    exact hle
   have jW:ops[e.on]?=some (ops[e.on]'q8):=aqs q8
   exact ih e.on aO _ jW (bZ e.on _ jW xC) j Qo h2
theorem fI{listed:Array Bool}{j:Nat}(h:j<listed.size)(a b:Bool):listed.getD j a=listed.getD j b:=by
 rw[aqu,aqu,aqs h]
 rfl
theorem cw{listed:Array Bool}{j:Nat}(h:listed.getD j true=false):j<listed.size:=by
 rcases apQ j listed.size with h'|h'
 ·exact h'
 ·rw[aqu,Array.getElem?_eq_none h']at h
  cases h
theorem ib{listed:Array Bool}{j:Nat}(a:Bool)(h:j<listed.size):(listed.setIfInBounds j true).getD j a=true:=by
 rw[aqu,Array.getElem?_setIfInBounds_self_of_lt h]
 rfl
theorem pb{listed:Array Bool}{i:Nat}{o:Oper}(bZ:kj ops listed)(hi:ops[i]?=some o)(hp: ∀e∈o.after,Region.binds .any e=true→listed.getD e.on false=true):kj ops (listed.setIfInBounds i true):=by
 intro j o' jW hj e he hb
 by_cases kl:i=j
 ·subst kl
  rw[hi]at jW
  obtain rfl:=apO jW
  exact getD_set_true (hp e he hb)
 ·rw[getD_set_ne true kl]at hj
  exact getD_set_true (bZ j o' jW hj e he hb)
theorem zq{bs:Array Nat}{n:Nat}{c:Ctx}{Q:Exit→KS}(go:iL P c)(hid: ∀(k:Nat) o,ops[k]?=some o→cJ P o.op=true→bl k<n)(hb:mD mk ops bs=true):
  ∀(fuel:Nat) (r:List Nat) (listed:Array Bool) (a:Act) (w:World) (s:List V) (rows:List Row),r.length≤fuel→n≤rows.length→bW F rows→listed.size=ops.size→
   (∀j,j∈r↔listed.getD j true=false)→r.Pairwise (· < ·)→kj ops listed→gj c s rows a w→dP P F mk ops bl r K s rows→
   wpAnyIn (fw rd) 0 P .any ops (lift c (cZ K Q)) fuel listed a w:=by
 have pc:jE ops bs=true:=by
  unfold mD at hb
  exact(apP _ _▸hb).1
 have nj: ∀i j,i<ops.size→j<i→(bs.getD i 0).testBit j=true∨jD mk ops j i=true:=by
  intro i j hi hj
  unfold mD at hb
  have:=(apP _ _▸hb).2
  rw[ap1]at this
  have:=this i (aqv.2 hi)
  rw[ap1]at this
  have:=this j (aqv.2 hj)
  rwa[aqe]at this
 have gq:=jL pc
 intro fuel
 induction fuel with
 |zero=>
  intro r listed a w s rows hf hl hF cm hr hp bZ hc h
  obtain rfl:=apW (Nat.le_zero.1 hf)
  refine⟨?_,s,rows,h,hc⟩
  refine aqZ.2 fun j hj=>?_
  exact absurd ((hr j).2 (mem_ready.1 hj).1) (by simp)
 |succ fuel ih=>
  intro r listed a w s rows hf hl hF cm hr hp bZ hc h
  refine⟨fun tx=>?_,fun i hi=>?_⟩
  ·cases r with
   |nil=>exact⟨s,rows,h,hc⟩
   |cons j r=>
    exfalso
    have hj:=(hr j).1 (by simp)
    have GI:j<ops.size:=cm▸cw hj
    have qK:ops[j]?=some (ops[j]'GI):=aqs GI
    have:j∈Region.ready .any ops listed:=by
     refine mem_ready.2 ⟨hj,_,qK,fun e he JD=>?_⟩
     have aO:=gq.lt j _ e qK he JD
     have CH:e.on∉j::r:=by
      intro hm
      rcases ap8.1 hm with hm|hm
      ·omega
      ·have:=(ark.1 hp).1 _ hm
       omega
     rw[fI (by omega) false true]
     cases hv:listed.getD e.on true with
     |true=>rfl
     |false=>exact absurd ((hr e.on).2 hv) CH
    rw[tx]at this
    cases this
  ·obtain⟨jf,o,ho,jk⟩:=mem_ready.1 hi
   obtain⟨l1,l2,rfl⟩:=List.append_of_mem ((hr i).2 jf)
   have lZ: ∀j∈l1,j<i:=fun j hj=>(aqO.1 hp).2.2 j hj i (by simp)
   have vK:i<ops.size:=(ap4.1 ho).1
   have D2: ∀j∈l1,jD mk ops j i=true:=by
    intro j hj
    refine(nj i j vK (lZ j hj)).resolve_left fun JE=>?_
    have h1:=gh cm gq bZ i o ho jk j (lZ j hj) JE
    have h2:=(hr j).1 (by simp[hj])
    rw[fI (cw h2) false true,h2]at h1
    cases h1
   have hW:Wf P F s rows:=⟨⟨c,a,w,go,hc⟩,hF⟩
   have l4:=lW (K2:=fun s' r'=>(dP P F mk ops bl (l1++l2) K s' r'∧rows.length≤r'.length)∧bW F r') (fun s' r' rA h'=>⟨h',rA.2⟩) hW (lY (bl:=bl) (fun k o hk ha=>aqJ (hid k o hk ha) hl) (nC hid l1 s rows hl D2 hW h))
   have zr: ∀a' w' s' ad,n≤ad.length→bW F ad→gj c s' ad a' w'→dP P F mk ops bl (l1++l2) K s' ad→wpAnyIn (fw rd) 0 P .any ops (lift c (cZ K Q)) fuel (listed.setIfInBounds i true) a' w':=by
    intro a' w' s' ad lR D0 c8 h'
    have JF:=hp.imp (S:=(· ≠ ·)) (fun h=>Nat.ne_of_lt h)
    refine ih (l1++l2) _ a' w' s' ad (by simp at hf⊢;omega) lR D0 (by simpa using cm) (fun j=>?_) ?_ (pb bZ ho jk) c8 h'
    ·by_cases kl:i=j
     ·subst kl
      rw[ib true (cw jf)]
      constructor
      ·intro hm
       exfalso
       have h1:=aqO.1 JF
       rcases aqr.1 hm with hm|hm
       ·exact h1.2.2 i hm i (by simp) rfl
       ·exact(ark.1 h1.2.1).1 i hm rfl
      ·intro h;cases h
     ·rw[getD_set_ne true kl,←hr j]
      simp[Ne.symm kl]
    ·exact hp.sublist (arK (arT _) (List.sublist_cons_self _ _))
   obtain⟨ro,ρ,g,hs⟩:=hc
   unfold wpOpIn
   simp only[ho]
   unfold cP at l4
   simp only[ho]at l4
   rcases oA (c:=c) hs l4 with⟨hw,h⟩|⟨hw,h⟩
   ·rw[if_pos hw]
    obtain⟨draw,jV,tu⟩:=mC hF h
    refine sd (c:=c) go hs g tu ?_
    intro v w' r ad aY ρ' h1 h2 h3
    exact zr _ _ _ _ (aqD hl h1.1.2) h1.2 ⟨aY,ρ',h2,h3⟩ h1.1.1
   ·rw[if_neg (by simp[hw])]
    exact⟨fun _ _=>trivial,zr _ _ _ _ hl hF ⟨ro,ρ,g,hs.put .aa o.dst⟩ h.1.1⟩
end
def aU:Op→Bool
 |.alloc _|.box _ _|.buildSlice _ _ _|.makeSlice _ _ _|.convert _ _ _=>true
 |.call c=>(match c.callee with
  |.builtin .append=>true
  |_=>false)
 |_=>false
theorem xD{P:Program}{op:Op}(h:cJ P op=true):aU op=true:=by
 cases op<;>first|rfl|exact h|(simp only[cJ]at h;exact absurd h (by simp))
def ez(ops:Array Oper):Nat:=(ops.toList.filter fun o=>aU o.op).length
def au(P:Program)(ops:Array Oper)(F:List (Nat×Nat×V)):List Nat→List Oper→Nat→List V→List Row→KS→Prop
 |_,[],_,s,rows,K=>K s rows
 |ms,o::os,id,s,rows,K=>kg ops o.guard s (cp P F (ms.headD 0) o.op id s rows fun v ad=>au P ops F ms.tail os (if aU o.op=true then id+1 else id) (aD s o.dst v) ad K)
   (au P ops F ms.tail os (if aU o.op=true then id+1 else id) (aD s o.dst .aa) rows K)
section
variable {P : Program} {ops : Array Oper} {F : List (Nat × Nat × V)} {s : List V} {rows : List Row} {K : KS}
def eP(ops:Array Oper)(base i:Nat):Nat:=base+((ops.toList.take i).filter fun o=>aU o.op).length
def ef(ms:List Nat)(i:Nat):Nat:=ms.getD i 0
theorem nD(base:Nat)(ms:List Nat): ∀(os:List Oper) (t:Nat),ops.toList.drop t=os→ ∀(s:List V) (rows:List Row),au P ops F (ms.drop t) os (eP ops base t) s rows K→dP P F (ef ms) ops (eP ops base) (List.range' t os.length) K s rows
 |[],t,hd,s,rows,h=>h
 |o::os,t,hd,s,rows,h=>by
  have ht:ops.toList[t]?=some o:=by
   have:=congrArg (fun l=>l[0]?) hd
   simpa using this
  have fx:ops.toList.drop (t+1)=os:=by
   have:=congrArg List.tail hd
   simpa using this
  have hid:(if aU o.op=true then eP ops base t+1 else eP ops base t)=eP ops base (t+1):=by
   unfold eP
   rw[List.take_add_one,ht]
   by_cases hn:aU o.op=true
   ·simp[hn,aqX];omega
   ·simp[hn,aqX]
  have ho:ops[t]?=some o:=by simpa using ht
  have ih:=fun s rows=>nD base ms os (t+1) fx s rows
  have hm:(ms.drop t).headD 0=ef ms t:=by
   unfold ef
   rw[List.headD_eq_head?_getD,List.head?_drop,ap2]
  simp only[au,hid,hm,List.tail_drop]at h
  simp only[apS,List.range'_succ,dP]
  refine(bc ho).2 ?_
  rcases fm.1 h with⟨h1,h2⟩|⟨h1,h2⟩
  ·obtain⟨v,ad,h3,h4⟩:=kO h2
   exact .inl ⟨h1,h4 (fun v r=>dP P F (ef ms) ops (eP ops base) (List.range' (t+1) os.length) K (aD s o.dst v) r) (ih _ _ h3)⟩
  ·exact .inr ⟨h1,ih _ _ h2⟩
theorem jw{n0 id m:Nat}{Q:Exit→KS}(hF:bW F rows)(hm:P.follows .mixedOrders=true)(ms:List Nat)(hi:indep (ef ms) ops=true)(hn:ez ops=m)
  (h:au P ops F ms ops.toList rows.length s (rows++List.replicate m .bu) (Q .normal)):aS P n0 (.region id ops true) Q s rows:=by
 subst hn
 intro c a w Dd hc rd ju
 obtain⟨ro,ρ,g,hs⟩:=hc
 have Re:bW F (rows++List.replicate (ez ops) .bu):=fun p hp=>by
  obtain⟨cs,h1,h2⟩:=hF p hp
  exact⟨cs,by rw[ap7 (apN.1 h1).1];exact h1,h2⟩
 have hr:=nD rows.length ms ops.toList 0 rfl s _ (by simpa[eP]using h)
 refine wpIn_mono (Q:=lift c (cZ (Q .normal) Q)) (wpIn_region_any hm ?_) ?_
 ·refine zq Dd.2 (bl:=eP ops rows.length) (n:=rows.length+ez ops) (bs:=nY ops) ?_ hi ops.size (List.range' 0 ops.toList.length) _ a _ s _ (by simp) (by simp) Re (by simp) ?_ ?_ ?_ ?_ hr
  ·intro k o ho ha
   have hk:k<ops.size:=(ap4.1 ho).1
   have q9:=xD ha
   unfold eP ez
   have:ops.toList=ops.toList.take k++o::ops.toList.drop (k+1):=by
    have zo:k<ops.toList.length:=by simpa using hk
    have he:ops.toList[k]'zo=o:=by
     have:=(ap4.1 ho).2
     simpa using this
    rw[←he,List.getElem_cons_drop,aqE]
   have h2:=congrArg (fun l=>(l.filter fun o=>aU o.op).length) this
   simp only[aqX,aqa,ar0,q9,if_true,apS]at h2
   omega
  ·intro j
   rw[arU]
   constructor
   ·intro hj
    have:j<ops.size:=by simpa using hj
    simp[this]
   ·intro hj
    have:=cw hj
    simpa using this
  ·exact List.pairwise_lt_range'
  ·intro i o ho hl
   have hi:i<ops.size:=(ap4.1 ho).1
   simp[hi]at hl
  ·obtain⟨g1,e1⟩:=g.drew (w.drawn+1)
   obtain⟨g2,e2⟩:=g1.AO (ez ops)
   exact⟨ro,_,g2,(hs.ext e1).ext e2⟩
 ·rintro e a' w' ⟨s',ad,hQ,c8⟩
  cases e<;>exact⟨s',ad,hQ,c8⟩
end
end Go.VS
set_option linter.all false
namespace Go.VS
section
variable {P : Program} {n0 : Nat} {Q : Exit → KS} {s : List V} {rows : List Row}
theorem yE{α:Type}(S:α→List V)(R:α→List Row)(H:α→Prop)(μ:α→Nat)(x0:α){code:Code}(h0:H x0)(hle:Le n0 s rows (S x0) (R x0))
  (round: ∀x,H x→ ∀K:KS,(∀x' s' ad,H x'→μ x'<μ x→Le n0 s' ad (S x') (R x')→K s' ad)→aS P n0 code (cZ K Q) (S x) (R x)):aS P n0 (.loop code) Q s rows:=by
 refine T6 (α:={x:α//H x}) (fun x=>(S x.1,R x.1)) (fun x=>μ x.1) ⟨x0,h0⟩ hle fun x=>?_
 refine round x.1 x.2 _ fun x' s' ad h1 h2 h3=>⟨⟨x',h1⟩,h2,h3⟩
theorem F4(S:Nat→List V)(R:Nat→List Row)(n:Nat){code:Code}(hle:Le n0 s rows (S 0) (R 0))
  (round: ∀i,i≤n→ ∀K:KS,(∀s' ad,i<n→Le n0 s' ad (S (i+1)) (R (i+1))→K s' ad)→aS P n0 code (cZ K Q) (S i) (R i)):aS P n0 (.loop code) Q s rows:=
 yE S R (fun i=>i≤n) (fun i=>n+1-i) 0 (arW _) hle fun i hi K hK=>round i hi K fun s' ad h1 h2=>hK (i+1) s' ad (by omega) (by omega) h2
end
section
variable {P : Program} {draw : Bool} {f : FuncId} {cap args fZ : List V} {rows : List Row} {k : KV} {r : V}
theorem NU(h:ao P f (args++cap) r)(hp: ∀x∈args++cap,x.Pure)(hk:k r rows):mh P draw (.fn (.func f) cap) args rows k:=.inl (.inr ⟨r,hp,h,hk⟩)
theorem aI(h:ao P f fZ r)(hv:eZ rows (args++cap) fZ)(hf:r.Flat)(hk:k r rows):mh P draw (.fn (.func f) cap) args rows k:=.inl (.inl ⟨fZ,r,hv,h,hf,hk⟩)
end
section
variable {P : Program} {F : List (Nat × Nat × V)} {p : Nat × Nat × V} {op : Op} {id m : Nat} {s : List V} {rows : List Row} {k : KV}
@[simp] theorem ahk:cp P [] 0 op id s rows k=bF P true op id s rows k:=by
 show bF P true op id s rows (fun v r=>(dA op=3→bW [] r)∧k v r)=_
 simp
@[simp] theorem afL:cp P (p::F) 0 op id s rows k=bF P true op id s rows fun v r=>(dA op=3→bW (p::F) r)∧k v r:=rfl
@[simp] theorem ahl:cp P F 1 op id s rows k=bB P op s rows k:=rfl
@[simp] theorem ahm:cp P [] 2 op id s rows k=bx P op s rows k:=by
 show bx P op s rows (fun v r=>bW [] r∧k v r)=_
 simp
@[simp] theorem afM:cp P (p::F) 2 op id s rows k=bx P op s rows fun v r=>bW (p::F) r∧k v r:=rfl
@[simp] theorem ahn:cp P F 3 op id s rows k=hU P F op s rows k:=rfl
theorem xE{t:TypeId}{a:Operand}{j off:Nat}{v:V}(ha:ax s a=.ref j off)(hu:p9 P t=some false)(hF:(j,off,v)∈F)(hk:k v rows):hU P F (.load t a) s rows k:=by
 refine⟨v,fun ar h=>?_,hk⟩
 obtain⟨cs,h1,h2⟩:=h _ hF
 simp only[bF,ha,xz]
 refine⟨cs,h1,?_,?_⟩
 ·rintro rfl;simp at h2
 ·simp only[gr,hu]
  exact⟨v,h2,rfl,trivial⟩
end
attribute [simp] aU bB bx
@[simp] theorem ads{b:Bool}:(V.bool b).Pure:=.bool
@[simp] theorem afN{k:IntKind}{n:Int}:(V.int k n).Pure:=.int
@[simp] theorem afO{b:List UInt8}:(V.str b).Pure:=.str
@[simp] theorem adt:V.bR.Pure:=.bR
@[simp] theorem adu{c:List V}:(V.aL c).Pure:=.aL
@[simp] theorem adv:V.aj.Pure:=.aj
@[simp] theorem Ww{n:Nat}{c:List V}:(V.sl n c).Pure:=.sl
@[simp] theorem adw:V.aq.Pure:=.aq
@[simp] theorem abu:V.cL.Pure:=.cL
@[simp] theorem qb{c:List V}:(V.agg c).Pure↔ ∀x∈c,x.Pure:=⟨fun h=>by cases h;assumption,fun h=>.agg h⟩
@[simp] theorem xF{c:List V}:(V.aB c).Pure↔ ∀x∈c,x.Pure:=⟨fun h=>by cases h;assumption,fun h=>.aB h⟩
@[simp] theorem Fo{f:Fn}{c:List V}:(V.fn f c).Pure↔ ∀x∈c,x.Pure:=⟨fun h=>by cases h;assumption,fun h=>.fn h⟩
@[simp] theorem xG{t:TypeId}{x:V}:(V.iface t x).Pure↔x.Pure:=⟨fun h=>by cases h;assumption,fun h=>.iface h⟩
@[simp] theorem T7{i o:Nat}: ¬(V.ref i o).Pure:=fun h=>by cases h
@[simp] theorem T8{i o n z:Nat}: ¬(V.av i o n z).Pure:=fun h=>by cases h
theorem Iq{rows:List Row}{id off n sz:Nat}{cs:List V}(h:rows[id]?=some (.live cs))(hl:off+n*sz≤cs.length)(hp: ∀x∈(cs.drop off).take (n*sz),x.Pure):
  View rows (.av id off n sz) (.sl n ((cs.drop off).take (n*sz))):=by
 refine .av h hl (by simp;omega) fun i x y hx hy=>?_
 rw[aqc]at hy
 split at hy
 ·rw[aqb,hx]at hy
  obtain rfl:=apO hy
  exact .pure (hp _ (aqg (i:=i) (by rw[aqc,if_pos (by assumption),aqb];exact hx)))
 ·cases hy
theorem bK{rows:List Row}{id n sz:Nat}{cs:List V}(h:rows[id]?=some (.live cs))(hl:n*sz=cs.length)(hp: ∀x∈cs,x.Pure):View rows (.av id 0 n sz) (.sl n cs):=by
 have:=Iq (off:=0) (n:=n) (sz:=sz) h (by omega) (by simpa[hl]using hp)
 simpa[hl]using this
theorem aA{rows:List Row}{id:Nat}{cs:List V}(h:rows[id]?=some (.live cs))(hl:cs≠ [])(hp: ∀x∈cs,x.Pure):View rows (.ref id 0) (.aL cs):=by
 refine .ref h hl (by omega) fun i x y hx hy=>?_
 rw[aq6,hy]at hx
 obtain rfl:=apO hx
 exact .pure (hp _ (aqg hy))
@[simp] theorem adx{rows:List Row}:eZ rows [] []↔True:=Iff.rfl
@[simp] theorem ab9{rows:List Row}{x y:V}{xs ys:List V}:eZ rows (x::xs) (y::ys)↔View rows x y∧eZ rows xs ys:=Iff.rfl
theorem gM{ex:Bool}{m:List (Option Nat)}: ∀{cs:List V},(∀x∈cs,x.Pure)→dI ex m cs cs
 |[],_=>trivial
 |x::xs,h=>⟨.pure (h x (by simp)),gM fun y hy=>h y (by simp[hy])⟩
@[simp] theorem qn{ex:Bool}{m:List (Option Nat)}{cs:List V}(h: ∀x∈cs,x.Pure):nd ex m (.live cs) (.live cs)↔True:=iff_true_intro (show dI ex m cs cs from gM h)
theorem wrap_i64{n:Int}(h1: -9223372036854775808≤n)(h2:n≤9223372036854775807):IntKind.i64.wrap n=n:=by
 simp[IntKind.wrap,IntKind.signed,IntKind.bits];omega
theorem wrap_u8{n:Int}(h1:0≤n)(h2:n≤255):IntKind.u8.wrap n=n:=by
 simp[IntKind.wrap,IntKind.signed,IntKind.bits];omega
theorem wrap_u32{n:Int}(h1:0≤n)(h2:n≤4294967295):IntKind.u32.wrap n=n:=by
 simp[IntKind.wrap,IntKind.signed,IntKind.bits];omega
theorem wrap_u64{n:Int}(h1:0≤n)(h2:n≤18446744073709551615):IntKind.u64.wrap n=n:=by
 simp[IntKind.wrap,IntKind.signed,IntKind.bits];omega
end Go.VS
set_option linter.all false
namespace Go.VS
attribute [simp] uN IntKind.bits
@[simp] theorem aho{α β:Type}{a:α}{b:β}{p:α→β→Prop}:(∃n e,(a=n∧b=e)∧p n e)↔p a b:=
 ⟨fun⟨_,_,⟨h1,h2⟩,h⟩=>by subst h1;subst h2;exact h,fun h=>⟨a,b,⟨rfl,rfl⟩,h⟩⟩
theorem eC{cs vs:List V}(h:vs.length=cs.length):eB cs 0 vs=vs:=by
 apply arA
 intro j
 rw[nZ _ _ _ _ (by omega)]
 by_cases hj:j<vs.length
 ·rw[if_pos (by omega)];simp
 ·rw[if_neg (by omega),aql (by omega),aql (by omega)]
theorem E0{cs vs:List V}{o:Nat}(h:o+vs.length≤cs.length):eB cs o vs=cs.take o++vs++cs.drop (o+vs.length):=by
 apply arA
 intro j
 rw[nZ _ _ _ _ h,ap3,aqq,aqq]
 simp only[apT,arM (show o≤cs.length by omega),aqb]
 by_cases h1:j<o
 ·rw[if_neg (by omega),if_pos h1,aqc,if_pos h1]
 ·rw[if_neg h1]
  by_cases h2:j<o+vs.length
  ·rw[if_pos (by omega),if_pos (by omega)]
  ·rw[if_neg (by omega),if_neg (by omega)]
   congr 1
   omega
theorem GJ(w a:Nat):BitVec.ofInt w (a:Int)=BitVec.ofNat w a:=by
 apply BitVec.eq_of_toNat_eq
 simp
theorem bits_nat{k:IntKind}{a b:Nat}(ha:a<2^k.bits)(hb:b<2^k.bits):
  bits .and k a b=k.wrap ((a&&&b:Nat):Int)∧bits .or k a b=k.wrap ((a|||b:Nat):Int)∧bits .xor k a b=k.wrap ((a^^^b:Nat):Int):=by
 refine⟨?_,?_,?_⟩<;>simp only[bits,GJ,BitVec.toNat_and,BitVec.toNat_or,BitVec.toNat_xor,BitVec.toNat_ofNat,aq1 ha,aq1 hb]
theorem yx{k:IntKind}{n:Int}(j:Nat)(h0:0≤n)(h1:n<2^k.bits)(hj:j<k.bits):bits .and k n ((2^j-1:Nat):Int)=n%2^j:=by
 obtain⟨a,rfl⟩: ∃a:Nat,n=a:=⟨n.toNat,by omega⟩
 have hp:2^j<2^k.bits:=Nat.pow_lt_pow_right (by omega) hj
 have ha:a<2^k.bits:=by exact_mod_cast h1
 rw[(bits_nat ha (by omega)).1,Nat.and_two_pow_sub_one_eq_mod]
 have aO:a%2^j<2^j:=arc _ (Nat.two_pow_pos j)
 have hle:2^j≤2^(k.bits-1):=Nat.pow_le_pow_right (by omega) (by omega)
 have hw:k.wrap ((a%2^j:Nat):Int)=((a%2^j:Nat):Int):=by
  generalize a%2^j=m at*
  generalize 2^j=q at*
  have:m<2^(k.bits-1):=by omega
  cases k<;>simp[IntKind.wrap,IntKind.signed,IntKind.bits]at* <;>omega
 rw[hw]
 simp
theorem Tr{n:Int}(h0:0≤n)(h1:n≤255):bits .and .u8 n 15=n%16:=yx (k:=.u8) 4 h0 (by simp;omega) (by decide)
theorem Gl{n:Int}(h0:0≤n)(h1:n≤9223372036854775807):bits .and .i64 n 15=n%16:=yx (k:=.i64) 4 h0 (by simp;omega) (by decide)
@[simp] theorem ady{place:Nat→Option (Nat×Nat)}{ρ:Operand→V}{cs:List V}{k:List V→Prop}:nQ place ρ [] cs k↔k cs:=Iff.rfl
@[simp] theorem aca{place:Nat→Option (Nat×Nat)}{ρ:Operand→V}{i:Nat}{x:Operand}{r:List (Nat×Operand)}{cs:List V}{k:List V→Prop}:
  nQ place ρ ((i,x)::r) cs k↔match place i,eH (ρ x)with
   |some p,some vs=>vs.length=p.2∧p.1+p.2≤cs.length∧nQ place ρ r (eB cs p.1 vs) k
   |_,_=>False:=by
 constructor
 ·rintro⟨off,sz,vs,h1,h2,h3⟩
  simp only[h1,h2]
  exact h3
 ·intro h
  split at h
  ·rename_i p vs h1 h2
   exact⟨p.1,p.2,vs,h1,h2,h⟩
  ·exact h.elim
theorem eZ.at{rows:List Row}: ∀{xs ys:List V},eZ rows xs ys→xs.length=ys.length∧ ∀(i:Nat) x y,xs[i]?=some x→ys[i]?=some y→View rows x y:=fun h=>h.get
theorem IG{rows:List Row}{c d:List V}(h:eZ rows c d):View rows (.aB c) (.aB d):=.aB h.get.1 h.get.2
theorem nX{rows:List Row}{c d:List V}(h:eZ rows c d):View rows (.agg c) (.agg d):=.agg h.get.1 h.get.2
end Go.VS
set_option linter.all false
namespace Go.VS
section
variable {P : Program} {ops : Array Oper} {F : List (Nat × Nat × V)} {s : List V} {rows : List Row} {K : KS} {o : Oper} {os : List Oper} {ms : List Nat} {id : Nat}
theorem ed(h:K s rows):bj P ops [] s rows K:=h
theorem dn(hg:cV ops o.guard s=some true)(h: ∀K2:KV,(∀v ad,bj P ops os (aD s o.dst v) ad K→K2 v ad)→bF P false o.op rows.length s rows K2):bj P ops (o::os) s rows K:=
 fm.2 (.inl ⟨hg,h _ fun _ _ h=>h⟩)
theorem dX(hg:cV ops o.guard s=some false)(h:bj P ops os (aD s o.dst .aa) rows K):bj P ops (o::os) s rows K:=
 fm.2 (.inr ⟨hg,h⟩)
theorem yK(h:K s rows):au P ops F ms [] id s rows K:=h
theorem Cg(hg:cV ops o.guard s=some true)(h: ∀K2:KV,(∀v ad,au P ops F ms.tail os (if aU o.op=true then id+1 else id) (aD s o.dst v) ad K→K2 v ad)→cp P F (ms.headD 0) o.op id s rows K2):au P ops F ms (o::os) id s rows K:=
 fm.2 (.inl ⟨hg,h _ fun _ _ h=>h⟩)
theorem Ch(hg:cV ops o.guard s=some false)(h:au P ops F ms.tail os (if aU o.op=true then id+1 else id) (aD s o.dst .aa) rows K):au P ops F ms (o::os) id s rows K:=
 fm.2 (.inr ⟨hg,h⟩)
end
theorem nU{n0:Nat}{P:Program}{Q:Exit→KS}{s:List V}{rows:List Row}{x y:Code}
  (h: ∀K:KS,(∀s rows,aS P n0 y Q s rows→K s rows)→(∀s rows s' ad,Le n0 s rows s' ad→K s' ad→K s rows)→aS P n0 x (cZ K Q) s rows):aS P n0 (.seq x y) Q s rows:=by
 refine b8 fun K hK=>wZ (h (aS P n0 y Q) (fun _ _ h=>h) (fun _ _ _ _ hl h=>DE hl h)) fun e s rows he=>?_
 cases e<;>first|exact hK _ _ he|exact he
attribute [simp] cV
def mQ(P:Program)(t:TypeId):Bool:=match P.underlying t with
 |some (.pointer _)=>true
 |_=>false
def HV(P:Program)(t:TypeId):Bool:=match P.underlying t with
 |some .bool=>true
 |_=>false
section
variable {P : Program} {t e d : Nat}
theorem wy(h:mQ P t=true): ∃e,P.underlying t=some (.pointer e):=by
 unfold mQ at h
 split at h
 ·exact⟨_,by assumption⟩
 ·simp at h
theorem T9(h:HV P t=true):P.underlying t=some .bool:=by
 unfold HV at h
 split at h
 ·assumption
 ·simp at h
@[simp] theorem afP(h:mQ P t=true):dH P (d+1) t .bR .bR=some true:=by
 obtain⟨e,he⟩:=wy h;simp[dH,he]
@[simp] theorem ZQ{i o:Nat}(h:mQ P t=true):dH P (d+1) t (.ref i o) .bR=some false:=by
 obtain⟨e,he⟩:=wy h;simp[dH,he]
@[simp] theorem ZR{i o:Nat}(h:mQ P t=true):dH P (d+1) t .bR (.ref i o)=some false:=by
 obtain⟨e,he⟩:=wy h;simp[dH,he]
@[simp] theorem XA{c:List V}(h:mQ P t=true):dH P (d+1) t (.aL c) .bR=some false:=by
 obtain⟨e,he⟩:=wy h;simp[dH,he]
@[simp] theorem XB{c:List V}(h:mQ P t=true):dH P (d+1) t .bR (.aL c)=some false:=by
 obtain⟨e,he⟩:=wy h;simp[dH,he]
@[simp] theorem afQ{a b:Bool}(h:HV P t=true):dH P (d+1) t (.bool a) (.bool b)=some (a==b):=by
 have:=T9 h;simp[dH,this]
end
end Go.VS
