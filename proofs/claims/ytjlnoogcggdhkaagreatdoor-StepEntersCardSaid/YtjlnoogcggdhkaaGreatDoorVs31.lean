/-
 VALUE SEMANTICS, 31: drawn regions whose guards hang on operations that were passed over. Printed by genVs31.py out of 17, 20 and 25.
 Conditions: none.
-/
import Derived.Test.YtjlnoogcggdhkaaGreatDoorGi
set_option linter.all false
namespace Go.VS
variable {rd : Option Nat} {b0 : Nat}
namespace DU
abbrev cV(ops:Array Oper)(g:Option (Nat×Bool))(s:List V):Option Bool:=ev ops g s
def kg(ops:Array Oper)(g:Option (Nat×Bool))(s:List V)(yes no:Prop):Prop:=(cV ops g s=some true∧yes)∨(cV ops g s=some false∧no)
theorem fm{ops:Array Oper}{g:Option (Nat×Bool)}{s:List V}{yes no:Prop}:kg ops g s yes no↔(cV ops g s=some true∧yes)∨(cV ops g s=some false∧no):=Iff.rfl
theorem oA{w:World}{ro:Nat→Prop}{ρ:bP}{a:Act}{s:List V}{ops:Array Oper}{o:Oper}{yes no:Prop}(hs:eV b0 w ro ρ a s)(h:kg ops o.guard s yes no):
  (Region.wanted o (yielded ops a.tmps)=true∧yes)∨(Region.wanted o (yielded ops a.tmps)=false∧no):=by
 rcases h with⟨hg,h⟩|⟨hg,h⟩
 ·exact .inl ⟨gG hs hg,h⟩
 ·exact .inr ⟨gG hs hg,h⟩
def cP(P:Program)(F:List (Nat×Nat×V))(mk:Nat→Nat)(ops:Array Oper)(bl:Nat→Nat)(i:Nat)(K:KS):KS:=fun s rows=>
 match ops[i]? with
 |none=>K s rows
 |some o=>kg ops o.guard s (cp P F (mk i) o.op (bl i) s rows fun v r=>K (aD s o.dst v) r) (K (aD s o.dst dS) rows)
def dP(P:Program)(F:List (Nat×Nat×V))(mk:Nat→Nat)(ops:Array Oper)(bl:Nat→Nat):List Nat→KS→KS
 |[],K=>K
 |i::is,K=>cP P F mk ops bl i (dP P F mk ops bl is K)
section
variable {P : Program} {F : List (Nat × Nat × V)} {mk : Nat → Nat} {ops : Array Oper} {bl : Nat → Nat} {s s2 : List V} {rows ar : List Row} {K : KS}
theorem eG{x y:Option Tmp}{v u:V}(h: ∀d,x=some d→y≠some d):aD (aD s x v) y u=aD (aD s y u) x v:=by
 cases x with
 |none=>rfl
 |some d=>
  cases y with
  |none=>rfl
  |some e=>
   have bw:d≠e:=fun he=>h d rfl (he▸rfl)
   simp only[aD,lf]
   exact aro _ _ bw
theorem qG{d t:Nat}{v:V}(h:d≠t):bL (sset s d v) t=bL s t:=by
 rw[gb,gb,lf,ap6 h]
theorem zk{dst:Option Tmp}{v:V}{x:Operand}(h: ∀d,dst=some d→x≠.tmp d):ax (aD s dst v) x=ax s x:=by
 cases dst with
 |none=>rfl
 |some d=>
  cases x with
  |tmp t=>exact qG fun e=>h d rfl (e▸rfl)
  |_=>rfl
theorem q7{o:Oper}{x:Operand}{d:Nat}(hx:x∈o.op.operands)(h:x=.tmp d):d∈o.looksAt ops:=by
 subst h
 exact aqw _ (List.mem_filterMap.2 ⟨.tmp d,by simpa using hx,rfl⟩)
theorem zl{o:Oper}{dst:Option Tmp}{v:V}(h: ∀d,dst=some d→d∉o.looksAt ops):cV ops o.guard (aD s dst v)=cV ops o.guard s:=by
 cases dst with
 |none=>rfl
 |some d=>
  unfold cV ev
  cases hg:o.guard with
  |none=>rfl
  |some gw=>
   obtain⟨j,want⟩:=gw
   simp only
   cases hd:(ops[j]?).bind (·.dst)with
   |none=>rfl
   |some t=>
    have bw:d≠t:=fun e=>h d rfl (by subst e;simp[Oper.looksAt,hg,hd])
    simp only[aD,qG bw]
def fA(ops:Array Oper)(o:Oper)(s s2:List V):Prop:=cV ops o.guard s=cV ops o.guard s2∧ ∀x∈o.op.operands,ax s x=ax s2 x
theorem bp{o:Oper}{dst:Option Tmp}{v:V}(h: ∀d,dst=some d→d∉o.looksAt ops):fA ops o (aD s dst v) s:=
 ⟨zl h,fun x hx=>zk fun d hd he=>h d hd (q7 hx he)⟩
theorem fA.symm{o:Oper}(h:fA ops o s s2):fA ops o s2 s:=⟨h.1.symm,fun x hx=>(h.2 x hx).symm⟩
theorem bc{i:Nat}{o:Oper}(ho:ops[i]?=some o):cP P F mk ops bl i K s rows↔
  (cV ops o.guard s=some true∧cp P F (mk i) o.op (bl i) s rows fun v r=>K (aD s o.dst v) r)∨(cV ops o.guard s=some false∧K (aD s o.dst dS) rows):=by
 unfold cP
 simp only[ho]
 exact fm
theorem Wf.skip{o:Oper}(h:Wf P F s rows):Wf P F (aD s o.dst dS) rows:=by
 obtain⟨⟨c,a,w,go,ro,ρ,g,hs⟩,hF⟩:=h
 exact⟨⟨c,a.put o.dst undef,w,go,ro,ρ,g,hs.put .val o.dst⟩,hF⟩
theorem Wf.step{o:Oper}{m:Nat}{id:Nat}{v:V}{ad:List Row}(h:Wf P F s rows)(hr:cp P F m o.op id s rows fun a b=>a=v∧b=ad):Wf P F (aD s o.dst v) ad:=by
 obtain⟨⟨c,a,w,go,ro,ρ,g,hs⟩,hF⟩:=h
 obtain⟨draw,jV,tu⟩:=mC hF (BI hF hr)
 have hd:=rT (o:=o) go hs g tu
 have use: ∀u w',lU c (fun a b=>(a=v∧b=ad)∧bW F b) w ro ρ u w'→Wf P F (aD s o.dst v) ad:=by
  rintro u w' ⟨r,rs,aY,ρ',⟨⟨rfl,rfl⟩,D0⟩,h2,h3,h4⟩
  exact⟨⟨c,a.put o.dst u,w',go,aY,ρ',h2,(hs.ext h4).put h3 o.dst⟩,D0⟩
 generalize(execOp a.eval o).run P w=res at hd
 cases res with
 |halt x w'=>exact hd.elim
 |ok n w'=>
  cases n<;>try exact hd.elim
  case value u=>exact use u w' hd
  case skip=>exact use undef w' hd
  case enter f args=>
   obtain⟨e,lV,fr,⟨u,-,dN⟩,-⟩:=hd []
   exact use u lV dN
  case round l f tmps as bo=>
   obtain⟨e,lV,⟨u,-,dN⟩,-⟩:=hd.2 default [] (room_wide _)
   exact use u lV dN
theorem gS{i:Nat}{o:Oper}(ho:ops[i]?=some o)(hw:Wf P F s rows)(h:cP P F mk ops bl i K s rows):
  ∃v ad,K (aD s o.dst v) ad∧Wf P F (aD s o.dst v) ad∧ ∀(s2:List V) (K2:KS),fA ops o s s2→K2 (aD s2 o.dst v) ad→cP P F mk ops bl i K2 s2 rows:=by
 rcases(bc ho).1 h with⟨hg,h⟩|⟨hg,h⟩
 ·obtain⟨v,ad,h1,h2⟩:=kO h
  refine⟨v,ad,h1,hw.step (h2 (fun a b=>a=v∧b=ad) ⟨rfl,rfl⟩),fun s2 K2 hl hk=>(bc ho).2 (.inl ⟨hl.1▸hg,?_⟩)⟩
  exact iD hl.2 (h2 (fun v r=>K2 (aD s2 o.dst v) r) hk)
 ·exact⟨dS,rows,h,Wf.skip hw,fun s2 K2 hl hk=>(bc ho).2 (.inr ⟨hl.1▸hg,hk⟩)⟩
theorem lW{i:Nat}{K2:KS}(hk: ∀s rows,Wf P F s rows→K s rows→K2 s rows)(hw:Wf P F s rows)(h:cP P F mk ops bl i K s rows):cP P F mk ops bl i K2 s rows:=by
 cases ho:ops[i]? with
 |none=>
  unfold cP at h⊢
  simp only[ho]at h⊢
  exact hk s rows hw h
 |some o=>
  obtain⟨v,ad,h1,h2,h3⟩:=gS ho hw h
  exact h3 s K2 ⟨rfl,fun _ _=>rfl⟩ (hk _ _ h2 h1)
theorem qH{i:Nat}{o:Oper}(ho:ops[i]?=some o)(hk:dy (mk i) o.op≠3)(h:cP P F mk ops bl i K s rows):
  ∃v e,K (aD s o.dst v) (dM rows (bl i) e)∧(e≠none→dB rows (bl i)∧cJ P o.op=true)∧
   ∀(s2:List V) (ar:List Row) (K2:KS),fA ops o s s2→kP rows ar→(e≠none→dB ar (bl i))→Wf P F s2 ar→K2 (aD s2 o.dst v) (dM ar (bl i) e)→cP P F mk ops bl i K2 s2 ar:=by
 rcases(bc ho).1 h with⟨hg,h⟩|⟨hg,h⟩
 ·obtain⟨v,e,h1,h2,-,h3⟩:=DZ hk h
  refine⟨v,e,h1,h2,fun s2 ar K2 hl zm ZL ZM qI=>(bc ho).2 (.inl ⟨hl.1▸hg,?_⟩)⟩
  obtain⟨⟨c,a,w,go,ro,ρ,g,hs⟩,-⟩:=ZM
  exact iD hl.2 (h3 c ar w ro ρ zm ZL g (fun x hx=>⟨_,by rw[hl.2 x hx];exact hs.eval x⟩) (fun v r=>K2 (aD s2 o.dst v) r) qI)
 ·exact⟨dS,none,h,fun h=>absurd rfl h,fun s2 ar K2 hl _ _ _ qI=>(bc ho).2 (.inr ⟨hl.1▸hg,qI⟩)⟩
theorem qJ{i:Nat}{o:Oper}(ho:ops[i]?=some o)(hk:dy (mk i) o.op=0)(h:cP P F mk ops bl i K s rows):
  ∃v,K (aD s o.dst v) rows∧ ∀(s2:List V) (ar:List Row) (K2:KS),fA ops o s s2→K2 (aD s2 o.dst v) ar→cP P F mk ops bl i K2 s2 ar:=by
 rcases(bc ho).1 h with⟨hg,h⟩|⟨hg,h⟩
 ·obtain⟨v,h1,h2⟩:=DY hk h
  exact⟨v,h1,fun s2 ar K2 hl qI=>(bc ho).2 (.inl ⟨hl.1▸hg,iD hl.2 (h2 (bl i) ar (fun v r=>K2 (aD s2 o.dst v) r) qI)⟩)⟩
 ·exact⟨dS,h,fun s2 ar K2 hl qI=>(bc ho).2 (.inr ⟨hl.1▸hg,qI⟩)⟩
theorem zn{id:Nat}{e:Option (List V)}(hf:e≠none→rows[id]?=some .bu):kP rows (dM rows id e):=by
 intro j cs hj
 cases e with
 |none=>exact .inl hj
 |some ds=>
  have hr:=hf (by simp)
  left
  simp only[dM]
  rw[bH (aqx (apN.1 hr).1),if_neg]
  ·exact hj
  ·rintro rfl;rw[hr]at hj;simp at hj
theorem xB{id:Nat}{e:Option (List V)}(hf:e≠none→rows[id]?=some .bu):kP (dM rows id e) rows:=by
 intro j cs hj
 cases e with
 |none=>exact .inl hj
 |some ds=>
  have hr:=hf (by simp)
  simp only[dM]at hj
  rw[bH (aqx (apN.1 hr).1)]at hj
  split at hj
  ·rename_i e;subst e;exact .inr hr
  ·exact .inl hj
theorem dQ{α:Type}{l:List α}{id:Nat}{x:α}(h:id<l.length):da l id x=l.set id x:=if_neg (by omega)
theorem uM{i j:Nat}{oi oj:Oper}(hi:ops[i]?=some oi)(hj:ops[j]?=some oj)(JC:oi.apart ops oj=true)(hk:dy (mk i) oi.op=3→dy (mk j) oj.op=0)(zo:dy (mk j) oj.op=3→dy (mk i) oi.op=0)
  (hid: ∀(k:Nat) o,ops[k]?=some o→cJ P o.op=true→bl k<rows.length) (hw:Wf P F s rows) (h:cP P F mk ops bl i (cP P F mk ops bl j K) s rows):cP P F mk ops bl j (cP P F mk ops bl i K) s rows:=by
 obtain⟨a1,a2,a3⟩:=Oper.apart_spec JC
 by_cases lX:dy (mk i) oi.op=3
 ·
  obtain⟨vi,ri,h1,Rb,h2⟩:=gS hi hw h
  obtain⟨vj,h3,h4⟩:=qJ hj (hk lX) h1
  refine h4 s rows _ (bp a1) (h2 _ _ (bp a3).symm ?_)
  rw[eG (fun d hd he=>a2 d he hd)]
  exact h3
 by_cases Rc:dy (mk j) oj.op=3
 ·obtain⟨vi,h1,h2⟩:=qJ hi (zo Rc) h
  have Rb:Wf P F (aD s oi.dst vi) rows:=by
   obtain⟨v',r',q1,q2,-⟩:=gS (K:=fun s' r'=>s'=aD s oi.dst vi∧r'=rows) hi hw (h2 s rows _ ⟨rfl,fun _ _=>rfl⟩ ⟨rfl,rfl⟩)
   rw[q1.1,q1.2]at q2
   exact q2
  obtain⟨vj,rj,h3,-,h4⟩:=gS hj Rb h1
  refine h4 s _ (bp a1) (h2 _ _ _ (bp a3).symm ?_)
  rw[eG (fun d hd he=>a2 d he hd)]
  exact h3
 ·obtain⟨vi,ei,h1,f1,h2⟩:=qH hi lX h
  obtain⟨vj,ej,h3,f3,h4⟩:=qH hj Rc h1
  have fR:ei≠none→rows[bl i]?=some .bu:=fun he=>by
   obtain⟨q1,q2⟩:=f1 he
   have:=hid i oi hi q2
   rcases q1 with q1|q1
   ·omega
   ·exact q1
  have hlen:(dM rows (bl i) ei).length=rows.length:=by
   cases ei with
   |none=>rfl
   |some cs=>
    have:=fR (by simp)
    have:=(apN.1 this).1
    simp only[dM,iE]
    rw[if_neg (by omega)]
  have bw:ei≠none→ej≠none→bl i≠bl j:=by
   intro ZN ZO e
   cases ei with
   |none=>exact ZN rfl
   |some cs=>
    obtain⟨q1,q2⟩:=f3 ZO
    have:=hid j oj hj q2
    rw[←e]at q1 this
    have hr:=fR (by simp)
    rcases q1 with q1|q1
    ·rw[hlen]at q1;omega
    ·simp only[dM]at q1
     rw[bH (aqx this),if_pos rfl]at q1
     simp at q1
  have D1:ej≠none→rows[bl j]?=some .bu:=fun he=>by
   obtain⟨q1,q2⟩:=f3 he
   have aO:=hid j oj hj q2
   rcases q1 with q1|q1
   ·rw[hlen]at q1;omega
   ·cases ei with
    |none=>exact q1
    |some cs=>
     simp only[dM]at q1
     rw[bH (aqx (apN.1 (fR (by simp))).1),if_neg (fun e=>bw (by simp) he e.symm)]at q1
     exact q1
  have rU: ∀K2:KS,K2 (aD s oj.dst vj) (dM rows (bl j) ej)→cP P F mk ops bl j K2 s rows:=fun K2 nA=>
   h4 s rows K2 (bp a1) (xB fR) (fun he=>.inr (D1 he)) hw nA
  have ZP:Wf P F (aD s oj.dst vj) (dM rows (bl j) ej):=by
   obtain⟨v',r',q1,q2,-⟩:=gS (K:=fun s' r'=>s'=aD s oj.dst vj∧r'=dM rows (bl j) ej) hj hw (rU _ ⟨rfl,rfl⟩)
   rw[q1.1,q1.2]at q2
   exact q2
  refine rU _ (h2 _ _ _ (bp a3).symm (zn D1) (fun he=>?_) ZP ?_)
  ·right
   cases ej with
   |none=>exact fR he
   |some cs=>
    simp only[dM]
    rw[bH (aqx (apN.1 (D1 (by simp))).1),if_neg (bw he (by simp))]
    exact fR he
  ·rw[eG (fun d hd he=>a2 d he hd)]
   have hc:dM (dM rows (bl i) ei) (bl j) ej=dM (dM rows (bl j) ej) (bl i) ei:=by
    cases ei with
    |none=>rfl
    |some ci=>
     cases ej with
     |none=>rfl
     |some cj=>
      have q1:=(apN.1 (fR (by simp))).1
      have q2:=(apN.1 (D1 (by simp))).1
      simp only[dM]
      rw[dQ q1,dQ q2,dQ (by simpa using q2),dQ (by simpa using q1)]
      exact aro _ _ (bw (by simp) (by simp))
   rw[←hc]
   exact h3
def jD(mk:Nat→Nat)(ops:Array Oper)(i j:Nat):Bool:=
 match ops[i]?,ops[j]? with
 |some oi,some oj=>oi.apart ops oj&&(dy (mk i) oi.op !=3||dy (mk j) oj.op==0)&&(dy (mk j) oj.op !=3||dy (mk i) oi.op==0)
 |_,_=>false
def nY(ops:Array Oper):Array Nat:=Region.before ops
def jE(ops:Array Oper)(bs:Array Nat):Bool:=
 (List.range ops.size).all fun i=>match ops[i]? with
  |some o=>(o.after.all fun e=>!Region.binds .any e||e.on<i)&&
    (List.range i).all fun j=>!(bs.getD i 0).testBit j||o.after.any fun e=>Region.binds .any e&&(e.on==j||(decide (j<e.on)&&(bs.getD e.on 0).testBit j))
  |none=>true
def mD(mk:Nat→Nat)(ops:Array Oper)(bs:Array Nat):Bool:=
 jE ops bs&&(List.range ops.size).all fun i=>(List.range i).all fun j=>(bs.getD i 0).testBit j||jD mk ops j i
def indep(mk:Nat→Nat)(ops:Array Oper):Bool:=mD mk ops (nY ops)
theorem qs{i j:Nat}(h:jD mk ops i j=true): ∃oi oj,ops[i]?=some oi∧ops[j]?=some oj∧oi.apart ops oj=true∧(dy (mk i) oi.op=3→dy (mk j) oj.op=0)∧(dy (mk j) oj.op=3→dy (mk i) oi.op=0):=by
 unfold jD at h
 split at h
 ·rename_i oi oj h1 h2
  simp only[apP,aqe,bne_iff_ne,beq_iff_eq]at h
  exact⟨oi,oj,h1,h2,h.1.1,fun e=>h.1.2.resolve_left (fun h=>h e),fun e=>h.2.resolve_left (fun h=>h e)⟩
 ·simp at h
theorem lY{i:Nat}(hid: ∀(k:Nat) o,ops[k]?=some o→cJ P o.op=true→bl k<rows.length)(h:cP P F mk ops bl i K s rows):cP P F mk ops bl i (fun s' r'=>K s' r'∧rows.length≤r'.length) s rows:=by
 cases ho:ops[i]? with
 |none=>
  unfold cP at h⊢
  simp only[ho]at h⊢
  exact⟨h,aqf _⟩
 |some o=>
  rcases(bc ho).1 h with⟨hg,h⟩|⟨hg,h⟩
  ·exact(bc ho).2 (.inl ⟨hg,zj (hid i o ho) h⟩)
  ·exact(bc ho).2 (.inr ⟨hg,h,aqf _⟩)
theorem nC{i n:Nat}{l2:List Nat}(hid: ∀(k:Nat) o,ops[k]?=some o→cJ P o.op=true→bl k<n):
  ∀(l1:List Nat) (s:List V) (rows:List Row),n≤rows.length→(∀j∈l1,jD mk ops j i=true)→Wf P F s rows→dP P F mk ops bl (l1++i::l2) K s rows→cP P F mk ops bl i (dP P F mk ops bl (l1++l2) K) s rows
 |[],s,rows,_,_,_,h=>h
 |j::l1,s,rows,hl,hc,hw,h=>by
  obtain⟨oj,oi,hj,hi,q1,q2,q3⟩:=qs (hc j (by simp))
  have zp: ∀(k:Nat) o,ops[k]?=some o→cJ P o.op=true→bl k<rows.length:=fun k o h1 h2=>aqJ (hid k o h1 h2) hl
  refine uM hj hi q1 q2 q3 zp hw (lW (fun s' r' rA ⟨h1,h2⟩=>?_) hw (lY zp h))
  exact nC hid l1 s' r' (aqD hl h2) (fun k hk=>hc k (by simp[hk])) rA h1
structure tw (ops : Array Oper) (bs : Array Nat) : Prop where
 lt: ∀(i:Nat) o e,ops[i]?=some o→e∈o.after→Region.binds .any e=true→e.on<i
 step: ∀(i:Nat) o j,ops[i]?=some o→j<i→(bs.getD i 0).testBit j=true→ ∃e∈o.after,Region.binds .any e=true∧(e.on=j∨j<e.on∧(bs.getD e.on 0).testBit j=true)
theorem jL{bs:Array Nat}(h:jE ops bs=true):tw ops bs:=by
 simp only[jE,ap1,aqv]at h
 have at': ∀(i:Nat) o,ops[i]?=some o→((o.after.all fun e=>!Region.binds .any e||e.on<i)&&(List.range i).all fun j=>!(bs.getD i 0).testBit j||o.after.any fun e=>Region.binds .any e&&(e.on==j||(decide (j<e.on)&&(bs.getD e.on 0).testBit j)))=true:=by
  intro i o ho
  have:=h i (ap4.1 ho).1
  rw[ho]at this
  exact this
 refine⟨fun i o e ho he hb=>?_,fun i o j ho hj hb=>?_⟩
 ·have:=at' i o ho
  simp only[apP,Array.all_eq_true_iff_forall_mem,aqe,aqC,decide_eq_true_eq]at this
  exact(this.1 e he).resolve_left (fun h=>by rw[hb]at h;cases h)
 ·have:=at' i o ho
  simp only[apP,ap1,aqv,aqe,aqC]at this
  have h2:=(this.2 j hj).resolve_left (fun h=>by rw[hb]at h;cases h)
  obtain⟨e,he,h3⟩:=Array.any_eq_true'.1 h2
  simp only[apP,aqe,beq_iff_eq,decide_eq_true_eq]at h3
  exact⟨e,he,h3.1,h3.2⟩
def kj(ops:Array Oper)(listed:Array Bool):Prop:= ∀(i:Nat) o,ops[i]?=some o→listed.getD i true=true→ ∀e∈o.after,Region.binds .any e=true→listed.getD e.on false=true
theorem gh{bs:Array Nat}{listed:Array Bool}(hs:listed.size=ops.size)(hc:tw ops bs)(bZ:kj ops listed): ∀(i:Nat) o,ops[i]?=some o→(∀e∈o.after,Region.binds .any e=true→listed.getD e.on false=true)→
  ∀j,j<i→(bs.getD i 0).testBit j=true→listed.getD j false=true:=by
 intro i
 induction i using Nat.strongRecOn with
 |_ i ih=>
  intro o ho hp j hj hb
  obtain⟨e,he,h1,h2⟩:=hc.step i o j ho hj hb
  have aO:=hc.lt i o e ho he h1
  have hle:=hp e he h1
  rcases h2 with rfl|⟨Qo,h2⟩
  ·exact hle
  ·have cm:i<ops.size:=(ap4.1 ho).1
   have q8:e.on<ops.size:=by omega
   have xC:listed.getD e.on true=true:=by
    rw[aqu]at hle⊢
    have:e.on<listed.size:=by omega
    rw[aqs this]at hle⊢
    exact hle
   have jW:ops[e.on]?=some (ops[e.on]'q8):=aqs q8
   exact ih e.on aO _ jW (bZ e.on _ jW xC) j Qo h2
theorem fI{listed:Array Bool}{j:Nat}(h:j<listed.size)(a b:Bool):listed.getD j a=listed.getD j b:=by
 rw[aqu,aqu,aqs h]
 rfl
theorem cw{listed:Array Bool}{j:Nat}(h:listed.getD j true=false):j<listed.size:=by
 rcases apQ j listed.size with h'|h'
 ·exact h'
 ·rw[aqu,Array.getElem?_eq_none h']at h
  cases h
theorem ib{listed:Array Bool}{j:Nat}(a:Bool)(h:j<listed.size):(listed.setIfInBounds j true).getD j a=true:=by
 rw[aqu,Array.getElem?_setIfInBounds_self_of_lt h]
 rfl
theorem pb{listed:Array Bool}{i:Nat}{o:Oper}(bZ:kj ops listed)(hi:ops[i]?=some o)(hp: ∀e∈o.after,Region.binds .any e=true→listed.getD e.on false=true):kj ops (listed.setIfInBounds i true):=by
 intro j o' jW hj e he hb
 by_cases kl:i=j
 ·subst kl
  rw[hi]at jW
  obtain rfl:=apO jW
  exact getD_set_true (hp e he hb)
 ·rw[getD_set_ne true kl]at hj
  exact getD_set_true (bZ j o' jW hj e he hb)
theorem zq{bs:Array Nat}{n:Nat}{c:Ctx}{Q:Exit→KS}(go:iL P c)(hid: ∀(k:Nat) o,ops[k]?=some o→cJ P o.op=true→bl k<n)(hb:mD mk ops bs=true):
  ∀(fuel:Nat) (r:List Nat) (listed:Array Bool) (a:Act) (w:World) (s:List V) (rows:List Row),r.length≤fuel→n≤rows.length→bW F rows→listed.size=ops.size→
   (∀j,j∈r↔listed.getD j true=false)→r.Pairwise (· < ·)→kj ops listed→gj c s rows a w→dP P F mk ops bl r K s rows→
   wpAnyIn (fw rd) 0 P .any ops (lift c (cZ K Q)) fuel listed a w:=by
 have pc:jE ops bs=true:=by
  unfold mD at hb
  exact(apP _ _▸hb).1
 have nj: ∀i j,i<ops.size→j<i→(bs.getD i 0).testBit j=true∨jD mk ops j i=true:=by
  intro i j hi hj
  unfold mD at hb
  have:=(apP _ _▸hb).2
  rw[ap1]at this
  have:=this i (aqv.2 hi)
  rw[ap1]at this
  have:=this j (aqv.2 hj)
  rwa[aqe]at this
 have gq:=jL pc
 intro fuel
 induction fuel with
 |zero=>
  intro r listed a w s rows hf hl hF cm hr hp bZ hc h
  obtain rfl:=apW (Nat.le_zero.1 hf)
  refine⟨?_,s,rows,h,hc⟩
  refine aqZ.2 fun j hj=>?_
  exact absurd ((hr j).2 (mem_ready.1 hj).1) (by simp)
 |succ fuel ih=>
  intro r listed a w s rows hf hl hF cm hr hp bZ hc h
  refine⟨fun tx=>?_,fun i hi=>?_⟩
  ·cases r with
   |nil=>exact⟨s,rows,h,hc⟩
   |cons j r=>
    exfalso
    have hj:=(hr j).1 (by simp)
    have GI:j<ops.size:=cm▸cw hj
    have qK:ops[j]?=some (ops[j]'GI):=aqs GI
    have:j∈Region.ready .any ops listed:=by
     refine mem_ready.2 ⟨hj,_,qK,fun e he JD=>?_⟩
     have aO:=gq.lt j _ e qK he JD
     have CH:e.on∉j::r:=by
      intro hm
      rcases ap8.1 hm with hm|hm
      ·omega
      ·have:=(ark.1 hp).1 _ hm
       omega
     rw[fI (by omega) false true]
     cases hv:listed.getD e.on true with
     |true=>rfl
     |false=>exact absurd ((hr e.on).2 hv) CH
    rw[tx]at this
    cases this
  ·obtain⟨jf,o,ho,jk⟩:=mem_ready.1 hi
   obtain⟨l1,l2,rfl⟩:=List.append_of_mem ((hr i).2 jf)
   have lZ: ∀j∈l1,j<i:=fun j hj=>(aqO.1 hp).2.2 j hj i (by simp)
   have vK:i<ops.size:=(ap4.1 ho).1
   have D2: ∀j∈l1,jD mk ops j i=true:=by
    intro j hj
    refine(nj i j vK (lZ j hj)).resolve_left fun JE=>?_
    have h1:=gh cm gq bZ i o ho jk j (lZ j hj) JE
    have h2:=(hr j).1 (by simp[hj])
    rw[fI (cw h2) false true,h2]at h1
    cases h1
   have hW:Wf P F s rows:=⟨⟨c,a,w,go,hc⟩,hF⟩
   have l4:=lW (K2:=fun s' r'=>(dP P F mk ops bl (l1++l2) K s' r'∧rows.length≤r'.length)∧bW F r') (fun s' r' rA h'=>⟨h',rA.2⟩) hW (lY (bl:=bl) (fun k o hk ha=>aqJ (hid k o hk ha) hl) (nC hid l1 s rows hl D2 hW h))
   have zr: ∀a' w' s' ad,n≤ad.length→bW F ad→gj c s' ad a' w'→dP P F mk ops bl (l1++l2) K s' ad→wpAnyIn (fw rd) 0 P .any ops (lift c (cZ K Q)) fuel (listed.setIfInBounds i true) a' w':=by
    intro a' w' s' ad lR D0 c8 h'
    have JF:=hp.imp (S:=(· ≠ ·)) (fun h=>Nat.ne_of_lt h)
    refine ih (l1++l2) _ a' w' s' ad (by simp at hf⊢;omega) lR D0 (by simpa using cm) (fun j=>?_) ?_ (pb bZ ho jk) c8 h'
    ·by_cases kl:i=j
     ·subst kl
      rw[ib true (cw jf)]
      constructor
      ·intro hm
       exfalso
       have h1:=aqO.1 JF
       rcases aqr.1 hm with hm|hm
       ·exact h1.2.2 i hm i (by simp) rfl
       ·exact(ark.1 h1.2.1).1 i hm rfl
      ·intro h;cases h
     ·rw[getD_set_ne true kl,←hr j]
      simp[Ne.symm kl]
    ·exact hp.sublist (arK (arT _) (List.sublist_cons_self _ _))
   obtain⟨ro,ρ,g,hs⟩:=hc
   unfold wpOpIn
   simp only[ho]
   unfold cP at l4
   simp only[ho]at l4
   rcases oA hs l4 with⟨hw,h⟩|⟨hw,h⟩
   ·rw[if_pos hw]
    obtain⟨draw,jV,tu⟩:=mC hF h
    refine sd (c:=c) go hs g tu ?_
    intro v w' r ad aY ρ' h1 h2 h3
    exact zr _ _ _ _ (aqD hl h1.1.2) h1.2 ⟨aY,ρ',h2,h3⟩ h1.1.1
   ·rw[if_neg (by simp[hw])]
    exact⟨fun _ _=>trivial,zr _ _ _ _ hl hF ⟨ro,ρ,g,hs.put .val o.dst⟩ h.1.1⟩
end
def aU:Op→Bool
 |.alloc _|.box _ _|.buildSlice _ _ _|.makeSlice _ _ _|.convert _ _ _=>true
 |.call c=>(match c.callee with
  |.builtin .append=>true
  |_=>false)
 |_=>false
theorem xD{P:Program}{op:Op}(h:cJ P op=true):aU op=true:=by
 cases op<;>first|rfl|exact h|(simp only[cJ]at h;exact absurd h (by simp))
def ez(ops:Array Oper):Nat:=(ops.toList.filter fun o=>aU o.op).length
def au(P:Program)(ops:Array Oper)(F:List (Nat×Nat×V)):List Nat→List Oper→Nat→List V→List Row→KS→Prop
 |_,[],_,s,rows,K=>K s rows
 |ms,o::os,id,s,rows,K=>kg ops o.guard s (cp P F (ms.headD 0) o.op id s rows fun v ad=>au P ops F ms.tail os (if aU o.op=true then id+1 else id) (aD s o.dst v) ad K)
   (au P ops F ms.tail os (if aU o.op=true then id+1 else id) (aD s o.dst dS) rows K)
section
variable {P : Program} {ops : Array Oper} {F : List (Nat × Nat × V)} {s : List V} {rows : List Row} {K : KS}
def eP(ops:Array Oper)(base i:Nat):Nat:=base+((ops.toList.take i).filter fun o=>aU o.op).length
def ef(ms:List Nat)(i:Nat):Nat:=ms.getD i 0
theorem nD(base:Nat)(ms:List Nat): ∀(os:List Oper) (t:Nat),ops.toList.drop t=os→ ∀(s:List V) (rows:List Row),au P ops F (ms.drop t) os (eP ops base t) s rows K→dP P F (ef ms) ops (eP ops base) (List.range' t os.length) K s rows
 |[],t,hd,s,rows,h=>h
 |o::os,t,hd,s,rows,h=>by
  have ht:ops.toList[t]?=some o:=by
   have:=congrArg (fun l=>l[0]?) hd
   simpa using this
  have fx:ops.toList.drop (t+1)=os:=by
   have:=congrArg List.tail hd
   simpa using this
  have hid:(if aU o.op=true then eP ops base t+1 else eP ops base t)=eP ops base (t+1):=by
   unfold eP
   rw[List.take_add_one,ht]
   by_cases hn:aU o.op=true
   ·simp[hn,aqX];omega
   ·simp[hn,aqX]
  have ho:ops[t]?=some o:=by simpa using ht
  have ih:=fun s rows=>nD base ms os (t+1) fx s rows
  have hm:(ms.drop t).headD 0=ef ms t:=by
   unfold ef
   rw[List.headD_eq_head?_getD,List.head?_drop,ap2]
  simp only[au,hid,hm,List.tail_drop]at h
  simp only[apS,List.range'_succ,dP]
  refine(bc ho).2 ?_
  rcases fm.1 h with⟨h1,h2⟩|⟨h1,h2⟩
  ·obtain⟨v,ad,h3,h4⟩:=kO h2
   exact .inl ⟨h1,h4 (fun v r=>dP P F (ef ms) ops (eP ops base) (List.range' (t+1) os.length) K (aD s o.dst v) r) (ih _ _ h3)⟩
  ·exact .inr ⟨h1,ih _ _ h2⟩
theorem jw{n0 id m:Nat}{Q:Exit→KS}(hF:bW F rows)(hm:P.follows .mixedOrders=true)(ms:List Nat)(hi:indep (ef ms) ops=true)(hn:ez ops=m)
  (h:au P ops F ms ops.toList rows.length s (rows++List.replicate m .bu) (Q .normal)):aS P n0 (.region id ops true) Q s rows:=by
 subst hn
 intro c a w Dd hc rd ju
 obtain⟨ro,ρ,g,hs⟩:=hc
 have Re:bW F (rows++List.replicate (ez ops) .bu):=fun p hp=>by
  obtain⟨cs,h1,h2⟩:=hF p hp
  exact⟨cs,by rw[ap7 (apN.1 h1).1];exact h1,h2⟩
 have hr:=nD rows.length ms ops.toList 0 rfl s _ (by simpa[eP]using h)
 refine wpIn_mono (Q:=lift c (cZ (Q .normal) Q)) (wpIn_region_any hm ?_) ?_
 ·refine zq Dd.2 (bl:=eP ops rows.length) (n:=rows.length+ez ops) (bs:=nY ops) ?_ hi ops.size (List.range' 0 ops.toList.length) _ a _ s _ (by simp) (by simp) Re (by simp) ?_ ?_ ?_ ?_ hr
  ·intro k o ho ha
   have hk:k<ops.size:=(ap4.1 ho).1
   have q9:=xD ha
   unfold eP ez
   have:ops.toList=ops.toList.take k++o::ops.toList.drop (k+1):=by
    have zo:k<ops.toList.length:=by simpa using hk
    have he:ops.toList[k]'zo=o:=by
     have:=(ap4.1 ho).2
     simpa using this
    rw[←he,List.getElem_cons_drop,aqE]
   have h2:=congrArg (fun l=>(l.filter fun o=>aU o.op).length) this
   simp only[aqX,aqa,ar0,q9,if_true,apS]at h2
   omega
  ·intro j
   rw[arU]
   constructor
   ·intro hj
    have:j<ops.size:=by simpa using hj
    simp[this]
   ·intro hj
    have:=cw hj
    simpa using this
  ·exact List.pairwise_lt_range'
  ·intro i o ho hl
   have hi:i<ops.size:=(ap4.1 ho).1
   simp[hi]at hl
  ·obtain⟨g1,e1⟩:=g.drew (w.drawn+1)
   obtain⟨g2,e2⟩:=g1.AO (ez ops)
   exact⟨ro,_,g2,(hs.ext e1).ext e2⟩
 ·rintro e a' w' ⟨s',ad,hQ,c8⟩
  cases e<;>exact⟨s',ad,hQ,c8⟩
end
section
variable {P : Program} {ops : Array Oper} {F : List (Nat × Nat × V)} {K : KS} {o : Oper} {os : List Oper} {s : List V} {rows : List Row} {ms : List Nat} {id : Nat}
theorem yK(h:K s rows):au P ops F ms [] id s rows K:=h
theorem Cg(hg:DU.cV ops o.guard s=some true)(h: ∀K2:KV,(∀v ad,au P ops F ms.tail os (if aU o.op=true then id+1 else id) (aD s o.dst v) ad K→K2 v ad)→cp P F (ms.headD 0) o.op id s rows K2):au P ops F ms (o::os) id s rows K:=
 fm.2 (.inl ⟨hg,h _ fun _ _ h=>h⟩)
theorem Ch(hg:DU.cV ops o.guard s=some false)(h:au P ops F ms.tail os (if aU o.op=true then id+1 else id) (aD s o.dst dS) rows K):au P ops F ms (o::os) id s rows K:=
 fm.2 (.inr ⟨hg,h⟩)
end
section
variable {P : Program} {n0 : Nat} {Q : Exit → KS} {s : List V} {rows : List Row}
theorem ky{id m:Nat}{ops:Array Oper}(hn:ez ops=m)(ms:List Nat)(hm:P.follows .mixedOrders=true)(hi:indep (ef ms) ops=true)
  (h:au P ops [] ms ops.toList rows.length s (rows++List.replicate m .bu) (Q .normal)):aS P n0 (.region id ops true) Q s rows:=jw (tY.2 trivial) hm ms hi hn h
theorem kz{id m:Nat}{ops:Array Oper}(F:List (Nat×Nat×V))(hF:bW F rows)(hn:ez ops=m)(ms:List Nat)(hm:P.follows .mixedOrders=true)(hi:indep (ef ms) ops=true)
  (h:au P ops F ms ops.toList rows.length s (rows++List.replicate m .bu) (Q .normal)):aS P n0 (.region id ops true) Q s rows:=jw hF hm ms hi hn h
theorem lC{ops:Array Oper}{F:List (Nat×Nat×V)}{K:KS}{o:Oper}{os:List Oper}{ms:List Nat}{id:Nat}(hg:DU.cV ops o.guard s=some true)
  (h: ∀K2:KV,(∀v ad,au P ops F ms.tail os (bif aU o.op then id+1 else id) (aD s o.dst v) ad K→K2 v ad)→cp P F (ms.headD 0) o.op id s rows K2):au P ops F ms (o::os) id s rows K:=
 Cg hg fun K2 iM=>h K2 fun v ad hv=>iM v ad (C3 (aU o.op) id▸hv)
theorem qw{ops:Array Oper}{F:List (Nat×Nat×V)}{K:KS}{o:Oper}{os:List Oper}{ms:List Nat}{id:Nat}(hg:DU.cV ops o.guard s=some false)
  (h:au P ops F ms.tail os (bif aU o.op then id+1 else id) (aD s o.dst dS) rows K):au P ops F ms (o::os) id s rows K:=
 Ch hg (C3 (aU o.op) id▸h)
theorem qx{ops:Array Oper}{F:List (Nat×Nat×V)}{K:KS}{o:Oper}{os:List Oper}{ms:List Nat}{id:Nat}(hg:o.guard=none)
  (h: ∀K2:KV,(∀v ad,au P ops F ms.tail os (bif aU o.op then id+1 else id) (aD s o.dst v) ad K→K2 v ad)→cp P F (ms.headD 0) o.op id s rows K2):au P ops F ms (o::os) id s rows K:=
 lC (by unfold DU.cV ev;rw[hg]) h
theorem yF{ops:Array Oper}{F:List (Nat×Nat×V)}{K:KS}{o:Oper}{os:List Oper}{ms:List Nat}{id:Nat}(hg:o.guard=none)(hn:aU o.op=false)
  (h: ∀K2:KV,(∀v ad,au P ops F ms.tail os id (aD s o.dst v) ad K→K2 v ad)→cp P F (ms.headD 0) o.op id s rows K2):au P ops F ms (o::os) id s rows K:=
 qx hg fun K2 iM=>h K2 fun v ad hv=>iM v ad (by rw[hn];exact hv)
theorem yG{ops:Array Oper}{F:List (Nat×Nat×V)}{K:KS}{o:Oper}{os:List Oper}{ms:List Nat}{id:Nat}(hg:o.guard=none)(hn:aU o.op=true)
  (h: ∀K2:KV,(∀v ad,au P ops F ms.tail os (id+1) (aD s o.dst v) ad K→K2 v ad)→cp P F (ms.headD 0) o.op id s rows K2):au P ops F ms (o::os) id s rows K:=
 qx hg fun K2 iM=>h K2 fun v ad hv=>iM v ad (by rw[hn];exact hv)
theorem Ci{ops:Array Oper}{F:List (Nat×Nat×V)}{K:KS}{o:Oper}{os:List Oper}{ms:List Nat}{id:Nat}(hn:aU o.op=false)(hg:DU.cV ops o.guard s=some true)
  (h: ∀K2:KV,(∀v ad,au P ops F ms.tail os id (aD s o.dst v) ad K→K2 v ad)→cp P F (ms.headD 0) o.op id s rows K2):au P ops F ms (o::os) id s rows K:=
 lC hg fun K2 iM=>h K2 fun v ad hv=>iM v ad (by rw[hn];exact hv)
theorem Cj{ops:Array Oper}{F:List (Nat×Nat×V)}{K:KS}{o:Oper}{os:List Oper}{ms:List Nat}{id:Nat}(hn:aU o.op=true)(hg:DU.cV ops o.guard s=some true)
  (h: ∀K2:KV,(∀v ad,au P ops F ms.tail os (id+1) (aD s o.dst v) ad K→K2 v ad)→cp P F (ms.headD 0) o.op id s rows K2):au P ops F ms (o::os) id s rows K:=
 lC hg fun K2 iM=>h K2 fun v ad hv=>iM v ad (by rw[hn];exact hv)
theorem Cl{ops:Array Oper}{F:List (Nat×Nat×V)}{K:KS}{o:Oper}{os:List Oper}{ms:List Nat}{id:Nat}(hn:aU o.op=false)(hg:DU.cV ops o.guard s=some false)
  (h:au P ops F ms.tail os id (aD s o.dst dS) rows K):au P ops F ms (o::os) id s rows K:=
 qw hg (by rw[hn];exact h)
theorem Cm{ops:Array Oper}{F:List (Nat×Nat×V)}{K:KS}{o:Oper}{os:List Oper}{ms:List Nat}{id:Nat}(hn:aU o.op=true)(hg:DU.cV ops o.guard s=some false)
  (h:au P ops F ms.tail os (id+1) (aD s o.dst dS) rows K):au P ops F ms (o::os) id s rows K:=
 qw hg (by rw[hn];exact h)
theorem sK{ops:Array Oper}{F:List (Nat×Nat×V)}{K:KS}{os:List Oper}{ms yH:List Nat}{id:Nat}{s s':List V}(e:s=s')(em:ms=yH)(h:au P ops F yH os id s' rows K):au P ops F ms os id s rows K:=by subst e;subst em;exact h
end
end DU
end Go.VS
namespace Go.VS.DU
theorem Yt{P:Program}{ops:Array Oper}{F:List (Nat×Nat×V)}{K:KS}{os:List Oper}{ms yH:List Nat}{id:Nat}{s s':List V}{rows:List Row}(h:au P ops F yH os id s' rows K)(e:s=s':=by first|(dsimp only[aD,sset];done)|rfl)(em:ms=yH:=by first|(dsimp only[List.tail];done)|rfl):au P ops F ms os id s rows K:=sK e em h
end Go.VS.DU
namespace Go.VS
theorem tF{p q:Prop}(h:q)(t:Wq q→p:=by intro h;first|exact Yo h.1|exact DU.yK h.1|exact Yq h.1|exact Y6 h.1|exact Y7 h.1|exact Y9 h.1|with_reducible exact A0 h.1|exact XH h.1|exact Ya h.1|exact Yc h.1|exact Ye (Yf h.1)|exact Yg h.1|exact Yd h.1|exact A3 h.1|exact A4 rfl h.1|exact A5 h.1|exact A1 h.1|exact A2 h.1|exact A6 h.1|fail):p:=t ⟨h⟩
theorem Eb{p q:Prop}(h:q)(t:Wq q→p:=by intro h;first|exact Yl rfl h.1|exact DU.yF rfl rfl h.1|exact DU.yG rfl rfl h.1|fail):p:=t ⟨h⟩
theorem Ru{p r q:Prop}(hr:r)(h:q)(t:Wq r→Wq q→p:=by intro a b;first|exact Ym a.1 b.1|exact DU.Ci rfl a.1 b.1|exact DU.Cj rfl a.1 b.1|fail):p:=t ⟨hr⟩ ⟨h⟩
theorem ZnD{p r q:Prop}(hr:r)(h:q)(t:Wq r→Wq q→p:=by intro a b;first|exact Yn a.1 b.1|exact DU.Cl rfl a.1 b.1|exact DU.Cm rfl a.1 b.1|fail):p:=t ⟨hr⟩ ⟨h⟩
theorem ZsD{p q:Prop}(h:q)(t:Wq q→p:=by intro h;first|exact Yp h.1|exact DU.Yt h.1|fail):p:=t ⟨h⟩
theorem Ec{p r q:Prop}(hr:r)(h:q)(t:Wq r→Wq q→p:=by intro a b;(repeat(refine Yz ?_));first|exact a.1 _ _ (Yp b.1)|exact a.1 _ _ (DU.Yt b.1)|fail):p:=t ⟨hr⟩ ⟨h⟩
theorem ZqD{p q:Prop}(h:q)(t:Wq q→p:=by intro h;refine Eb ?_;intro K9 h9;refine Zd ?_;refine Ec h9 ?_;first|exact h.1|fail):p:=t ⟨h⟩
theorem ZrD{p q:Prop}(h:q)(t:Wq q→p:=by intro h;(first|refine Eb ?_|(refine Ru ?_ ?_;(focus (simp;done))));intro K9 h9;refine Zd ?_;refine Ec h9 ?_;first|exact h.1|fail):p:=t ⟨h⟩
theorem ZoD{p q:Prop}(h:q)(t:Wq q→p:=by intro h;refine ZnD ?_ ?_;(focus (simp;done));refine ZsD ?_;first|exact h.1|fail):p:=t ⟨h⟩
theorem Z0D{p r q:Prop}(hr:r)(h:q)(t:Wq r→Wq q→p:=by intro a b;refine Eb ?_;intro K9 h9;simp(disch:=first|exact dd|fail) [a.1];refine Zm ?_;refine Ec h9 ?_;first|exact b.1|fail):p:=t ⟨hr⟩ ⟨h⟩
theorem Z1D{p r r2 q:Prop}(hr:r)(j2:r2)(h:q)(t:Wq r→Wq r2→Wq q→p:=by intro a b c;refine Eb ?_;intro K9 h9;simp(disch:=first|exact dd|fail) [a.1];refine Zm ?_;(first|refine Zc b.1 ?_|refine Zc b.1.1 ?_|refine Zc b.1.2 ?_|refine Zc b.1.2.1 ?_|refine Zc b.1.2.2 ?_|refine Zc b.1.2.2.1 ?_|refine Zc b.1.2.2.2 ?_|skip)<;>(refine Ec h9 ?_;first|exact c.1|fail)):p:=t ⟨hr⟩ ⟨j2⟩ ⟨h⟩
theorem Z2D{p r q:Prop}(hr:r)(h:q)(t:Wq r→Wq q→p:=by intro a b;refine Eb ?_;intro K9 h9;refine Zd ?_;(first|refine Zc a.1 ?_|refine Zc a.1.1 ?_|refine Zc a.1.2 ?_|refine Zc a.1.2.1 ?_|refine Zc a.1.2.2 ?_|refine Zc a.1.2.2.1 ?_|refine Zc a.1.2.2.2 ?_|skip)<;>(refine Ec h9 ?_;first|exact b.1|fail)):p:=t ⟨hr⟩ ⟨h⟩
theorem GS{p r q:Prop}(hr:r)(h:q)(t:Wq r→Wq q→p:=by intro a b;(first|refine Eb ?_|(refine Ru ?_ ?_;(focus (simp[a.1];done))));intro K9 h9;simp(disch:=first|exact dd|fail) [a.1];refine Zm ?_;refine Ec h9 ?_;first|exact b.1|fail):p:=t ⟨hr⟩ ⟨h⟩
theorem Ry{p r r2 q:Prop}(hr:r)(j2:r2)(h:q)(t:Wq r→Wq r2→Wq q→p:=by intro a b c;(first|refine Eb ?_|(refine Ru ?_ ?_;(focus (simp[a.1];done))));intro K9 h9;simp(disch:=first|exact dd|fail) [a.1];refine Zm ?_;(first|refine Zc b.1 ?_|refine Zc b.1.1 ?_|refine Zc b.1.2 ?_|refine Zc b.1.2.1 ?_|refine Zc b.1.2.2 ?_|refine Zc b.1.2.2.1 ?_|refine Zc b.1.2.2.2 ?_|skip)<;>(refine Ec h9 ?_;first|exact c.1|fail)):p:=t ⟨hr⟩ ⟨j2⟩ ⟨h⟩
theorem Z5D{p r q:Prop}(hr:r)(h:q)(t:Wq r→Wq q→p:=by intro a b;(first|refine Eb ?_|(refine Ru ?_ ?_;(focus (simp;done))));intro K9 h9;refine Zd ?_;(first|refine Zc a.1 ?_|refine Zc a.1.1 ?_|refine Zc a.1.2 ?_|refine Zc a.1.2.1 ?_|refine Zc a.1.2.2 ?_|refine Zc a.1.2.2.1 ?_|refine Zc a.1.2.2.2 ?_|skip)<;>(refine Ec h9 ?_;first|exact b.1|fail)):p:=t ⟨hr⟩ ⟨h⟩
theorem wE{p r q:Prop}(hr:r)(h:q)(t:Wq r→Wq q→p:=by intro a b;refine ZnD ?_ ?_;(focus (simp[a.1];done));refine ZsD ?_;first|exact b.1|fail):p:=t ⟨hr⟩ ⟨h⟩
namespace DU
theorem Zk{P:Program}{n0:Nat}{Q:Exit→KS}{s:List V}{rows:List Row}{id:Nat}{ops:Array Oper}(m:Nat)(ms:List Nat)(h:au P ops [] ms ops.toList rows.length s (rows++List.replicate m .bu) (Q .normal))(hn:ez ops=m:=by decide+kernel)(hm:P.follows .mixedOrders=true:=by kernel_rfl)(hi:indep (ef ms) ops=true:=by decide+kernel):aS P n0 (.region id ops true) Q s rows:=ky hn ms hm hi h
end DU
end Go.VS
