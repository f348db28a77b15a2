/-
 VALUE SEMANTICS, 48: numbers, strings, tests, conversions of numbers.
 Conditions: none.
-/
import Derived.Test.YtjlnoogcggdhkaaGreatDoorIa
set_option maxRecDepth 100000
set_option maxHeartbeats 32000000
set_option linter.all false
set_option linter.unusedSectionVars false
namespace Go.Ck
noncomputable section
open Go.VS
variable [eb]
def yi:Option Int→Option Int→Option Int
 |some a,some b=>some (a-b)
 |_,_=>none
def kI:Option Int→Option Int→IV
 |some a,some b=>.aR a b
 |_,_=>.top
def IV.fits(F:List Fact)(kd:IntKind)(i:IV):Bool:=fq (some kd.min) (i.lo F)&&fq (i.hi F) (some kd.max)
def IV.wrapped(F:List Fact)(kd:IntKind)(i:IV):IV:=if i.fits F kd then i else .aR kd.min kd.max
theorem aG{α:Type}{c:Prop}[Decidable c]{t u:α}(h:(if c then some t else none)=some u):c∧t=u:=by
 split at h
 ·exact⟨‹_›,apO h⟩
 ·cases h
section
variable {P : Program} {θ : List Int} {F : List Fact} {E : SL} {R : List AR} {id : Nat} {s : List V} {rows : List Row} {i j : IV} {m n : Int}
theorem Nt(kd:IntKind){n:Int}(h1:kd.min≤n)(h2:n≤kd.max):kd.wrap n=n:=by
 cases kd<;>simp[IntKind.wrap,IntKind.min,IntKind.max,IntKind.signed,IntKind.bits]at* <;>omega
theorem wT(kd:IntKind)(n:Int):kd.min≤kd.wrap n∧kd.wrap n≤kd.max:=by
 cases kd<;>simp[IntKind.wrap,IntKind.min,IntKind.max,IntKind.signed,IntKind.bits]<;>(try split)<;>omega
theorem mJ{a b:Option Int}(h1: ∀x,a=some x→x≤n)(h2: ∀x,b=some x→n≤x):(kI a b).Has θ n:=by
 cases a<;>cases b<;>first|trivial|exact⟨h1 _ rfl,h2 _ rfl⟩
theorem mK(h0:θ[0]?=some 0)(hF:aM θ F)(kd:IntKind)(h:i.Has θ n):(i.wrapped F kd).Has θ (kd.wrap n):=by
 unfold IV.wrapped
 split
 ·rename_i hf
  simp only[IV.fits,apP]at hf
  obtain⟨x,y,h1,h2,h3⟩:=fG hf.1
  obtain⟨x',y',iQ,eX,zb⟩:=fG hf.2
  have:=IV.ir h0 hF h2 h
  have:=IV.eh h0 hF iQ h
  simp at h1 eX
  rw[Nt kd (by omega) (by omega)]
  exact h
 ·exact wT kd _
def U1(F:List Fact)(i j:IV):IV:=
 match i,j with
 |.aH g c,.aH 0 d=>.aH g (c+d)
 |.aH 0 c,.aH g d=>.aH g (c+d)
 |i,j=>kI (jj (i.lo F) (j.lo F)) (jj (i.hi F) (j.hi F))
theorem Aq{a b:Option Int}{x:Int}(h:yi a b=some x): ∃y z,a=some y∧b=some z∧x=y-z:=by
 cases a<;>cases b<;>simp[yi]at h
 exact⟨_,_,rfl,rfl,h.symm⟩
theorem Xv(h0:θ[0]?=some 0)(hF:aM θ F)(hm:i.Has θ m)(hn:j.Has θ n):(U1 F i j).Has θ (m+n):=by
 have gen:(kI (jj (i.lo F) (j.lo F)) (jj (i.hi F) (j.hi F))).Has θ (m+n):=by
  refine mJ (fun x hx=>?_) fun x hx=>?_
  ·obtain⟨y,z,h1,h2,rfl⟩:=dZ hx
   have:=IV.ir h0 hF h1 hm
   have:=IV.ir h0 hF h2 hn
   omega
  ·obtain⟨y,z,h1,h2,rfl⟩:=dZ hx
   have:=IV.eh h0 hF h1 hm
   have:=IV.eh h0 hF h2 hn
   omega
 unfold U1
 split
 ·obtain⟨x,h1,rfl⟩:=hm
  obtain⟨y,h2,rfl⟩:=hn
  rw[h0]at h2
  obtain rfl:=apO h2
  exact⟨x,h1,by omega⟩
 ·obtain⟨x,h1,rfl⟩:=hm
  obtain⟨y,h2,rfl⟩:=hn
  rw[h0]at h1
  obtain rfl:=apO h1
  exact⟨y,h2,by omega⟩
 ·exact gen
def PN(F:List Fact)(i j:IV):IV:=
 match i,j with
 |.aH g c,.aH h d=>if g=h then .aH 0 (c-d)else if h=0 then .aH g (c-d)else kI (yi (i.lo F) (j.hi F)) (yi (i.hi F) (j.lo F))
 |i,j=>kI (yi (i.lo F) (j.hi F)) (yi (i.hi F) (j.lo F))
theorem ND(h0:θ[0]?=some 0)(hF:aM θ F)(hm:i.Has θ m)(hn:j.Has θ n):(PN F i j).Has θ (m-n):=by
 have gen:(kI (yi (i.lo F) (j.hi F)) (yi (i.hi F) (j.lo F))).Has θ (m-n):=by
  refine mJ (fun x hx=>?_) fun x hx=>?_
  ·obtain⟨y,z,h1,h2,rfl⟩:=Aq hx
   have:=IV.ir h0 hF h1 hm
   have:=IV.eh h0 hF h2 hn
   omega
  ·obtain⟨y,z,h1,h2,rfl⟩:=Aq hx
   have:=IV.eh h0 hF h1 hm
   have:=IV.ir h0 hF h2 hn
   omega
 unfold PN
 split
 ·split
  ·rename_i e
   subst e
   obtain⟨x,h1,rfl⟩:=hm
   obtain⟨y,h2,rfl⟩:=hn
   rw[h1]at h2
   obtain rfl:=apO h2
   exact⟨0,h0,by omega⟩
  ·split
   ·rename_i e
    subst e
    obtain⟨x,h1,rfl⟩:=hm
    obtain⟨y,h2,rfl⟩:=hn
    rw[h0]at h2
    obtain rfl:=apO h2
    exact⟨x,h1,by omega⟩
   ·exact gen
 ·exact gen
def yA(F:List Fact)(i:IV)(l:Int):Bool:=fq (some l) (i.lo F)
theorem pG(h0:θ[0]?=some 0)(hF:aM θ F){l:Int}(h:yA F i l=true)(hm:i.Has θ m):l≤m:=by
 obtain⟨x,y,h1,h2,h3⟩:=fG h
 have:=IV.ir h0 hF h2 hm
 simp at h1
 omega
def nK(F:List Fact)(i:IV)(l:Int):Bool:=fq (some l) (i.lo F)||fq (some l) (i.wj F)
theorem Ar(h0:θ[0]?=some 0)(hF:aM θ F){l:Int}(h:nK F i l=true)(hm:i.Has θ m):l≤m:=by
 unfold nK at h
 rw[aqe]at h
 rcases h with h|h
 ·obtain⟨x,y,h1,h2,h3⟩:=fG h
  have:=IV.ir h0 hF h2 hm
  simp at h1
  omega
 ·obtain⟨x,y,h1,h2,h3⟩:=fG h
  have:=IV.za h0 hF h2 hm
  simp at h1
  omega
def ik(i j:IV)(c:Int):List Fact:=
 match i,j with
 |.aH a x,.aH b y=> [⟨a,1,b,y+c-x⟩]
 |_,_=> []
theorem fb(hm:i.Has θ m)(hn:j.Has θ n){c:Int}(h:m≤n+c):aM θ (ik i j c):=by
 unfold ik
 split
 ·obtain⟨x,h1,rfl⟩:=hm
  obtain⟨y,h2,rfl⟩:=hn
  intro f hf
  obtain rfl:=aqn.1 hf
  exact⟨x,y,h1,h2,by simp;omega⟩
 ·intro f hf;simp at hf
def Bm(F:List Fact)(i j:IV):List Fact:=bif j.le F i then ik j i (-1)else bif i.le F j then ik i j (-1)else[]
theorem ET(h0:θ[0]?=some 0)(hF:aM θ F)(hm:i.Has θ m)(hn:j.Has θ n)(h:m≠n):aM θ (Bm F i j):=by
 unfold Bm
 cases h1:j.le F i with
 |true=>have:=IV.fL h0 hF h1 hn hm;exact fb hn hm (by omega)
 |false=>
  cases h2:i.le F j with
  |true=>have:=IV.fL h0 hF h2 hm hn;exact fb hm hn (by omega)
  |false=>exact cr
def As(r:Int→Int→Bool)(i j:IV):Option Bool:=
 match i,j with
 |.aH a x,.aH b y=>if a=b then some (r x y)else none
 |_,_=>none
def V4:Option Int→Option Int→Int
 |some a,some b=>if 0≤a∧0≤b then a*b else 0
 |_,_=>0
def U2:Option Int→Option Int→Option Int
 |some a,some b=>some (a*b)
 |_,_=>none
theorem SR{a b:Option Int}{x:Int}(h:U2 a b=some x): ∃y z,a=some y∧b=some z∧x=y*z:=by
 cases a<;>cases b<;>simp[U2]at h
 exact⟨_,_,rfl,rfl,h.symm⟩
def U3(a b:Option Int):Option Int:=
 match a,b with
 |some a,some b=>some (a/b)
 |_,_=>none
theorem SS{a b:Option Int}{x:Int}(h:U3 a b=some x): ∃y z,a=some y∧b=some z∧x=y/z:=by
 cases a<;>cases b<;>simp[U3]at h
 exact⟨_,_,rfl,rfl,h.symm⟩
def V5(a b:Option Int):Option Int:=
 match a,b with
 |some a,some b=>some (a/b)
 |_,_=>some 0
def Lj(F:List Fact)(op:BinOp)(kd:IntKind)(i:IV)(cH:IntKind)(j:IV):Option T:=
 match op with
 |.add=>if kd=cH then some (.int kd ((U1 F i j).wrapped F kd))else none
 |.sub=>if kd=cH then some (.int kd ((PN F i j).wrapped F kd))else none
 |.mul=>if kd=cH then some (.int kd ((if yA F i 0∧yA F j 0 then kI (some (V4 (i.lo F) (j.lo F))) (U2 (i.hi F) (j.hi F))else .top).wrapped F kd))else none
 |.quo=>if kd=cH∧yA F j 1 then some (.int kd ((if yA F i 0 then kI (V5 (i.lo F) (j.hi F)) (U3 (i.hi F) (j.lo F))else .top).wrapped F kd))else none
 |.rem=>if kd=cH∧yA F j 1 then some (.int kd (if yA F i 0 then kI (some 0) (jj (j.hi F) (some (-1)))else kI (yi (some 1) (j.hi F)) (jj (j.hi F) (some (-1)))))else none
 |.and|.or|.xor|.andNot=>if kd=cH then some (.int kd (.aR kd.min kd.max))else none
 |.shl=>if yA F j 0 then some (.int kd (IV.top.wrapped F kd))else none
 |.shr=>if yA F j 0 then some (.int kd (if yA F i 0 then kI (some 0) (i.hi F)else .top))else none
 |.eql=>if kd=cH then some (.bool (As (fun a b=>a==b) i j) (ik i j 0++ik j i 0) (Bm F i j))else none
 |.neq=>if kd=cH then some (.bool (As (fun a b=>a !=b) i j) (Bm F i j) (ik i j 0++ik j i 0))else none
 |.lss=>if kd=cH then some (.bool (As (fun a b=>decide (a<b)) i j) (ik i j (-1)) (ik j i 0))else none
 |.leq=>if kd=cH then some (.bool (As (fun a b=>decide (a≤b)) i j) (ik i j 0) (ik j i (-1)))else none
 |.gtr=>if kd=cH then some (.bool (As (fun a b=>decide (b<a)) i j) (ik j i (-1)) (ik i j 0))else none
 |.geq=>if kd=cH then some (.bool (As (fun a b=>decide (b≤a)) i j) (ik j i 0) (ik i j (-1)))else none
theorem sC{r:Int→Int→Bool}(hr: ∀a b x,r (x+a) (x+b)=r a b)(hm:i.Has θ m)(hn:j.Has θ n){c:Bool}(h:As r i j=some c):r m n=c:=by
 unfold As at h
 split at h
 ·split at h
  ·rename_i e
   subst e
   obtain⟨x,h1,rfl⟩:=hm
   obtain⟨y,h2,rfl⟩:=hn
   rw[h1]at h2
   obtain rfl:=apO h2
   rw[hr]
   exact apO h
  ·cases h
 ·cases h
theorem NF(a b x:Int):(x+a==x+b)=(a==b):=by rw[aqP,beq_iff_eq,beq_iff_eq];omega
theorem SU(h0:θ[0]?=some 0)(hF:aM θ F){op:BinOp}{kd cH:IntKind}{t:T}(h:Lj F op kd i cH j=some t)(hm:i.Has θ m)(hn:j.Has θ n){k:V→Prop}(hk: ∀v,Has θ t v→k v):tK op kd m cH n k:=by
 cases op<;>simp only[Lj]at h<;>obtain⟨e,rfl⟩:=aG h<;>clear h<;>simp only[tK]
 case add=>exact⟨e,hk _ (.int (mK h0 hF kd (Xv h0 hF hm hn)))⟩
 case sub=>exact⟨e,hk _ (.int (mK h0 hF kd (ND h0 hF hm hn)))⟩
 case mul=>
  refine⟨e,hk _ (.int (mK h0 hF kd ?_))⟩
  split
  ·rename_i hc
   have ha:=pG h0 hF hc.1 hm
   have hb:=pG h0 hF hc.2 hn
   refine mJ (fun x hx=>?_) fun x hx=>?_
   ·obtain rfl:=apO hx
    have JL:=Int.mul_nonneg ha hb
    cases e1:i.lo F with
    |none=>exact JL
    |some a=>
     cases e2:j.lo F with
     |none=>exact JL
     |some b=>
      simp only[V4]
      split
      ·rename_i c8
       exact Int.mul_le_mul (IV.ir h0 hF e1 hm) (IV.ir h0 hF e2 hn) c8.2 ha
      ·exact JL
   ·obtain⟨y,z,e1,e2,rfl⟩:=SR hx
    have g1:=IV.eh h0 hF e1 hm
    have g2:=IV.eh h0 hF e2 hn
    exact Int.mul_le_mul g1 g2 hb (by omega)
  ·trivial
 case quo=>
  have hb:=pG h0 hF e.2 hn
  refine⟨e.1,by omega,hk _ (.int (mK h0 hF kd ?_))⟩
  split
  ·rename_i ha
   have ha:=pG h0 hF ha hm
   refine mJ (fun x hx=>?_) fun x hx=>?_
   ·have hq:m.tdiv n=m/n:=Int.tdiv_eq_ediv_of_nonneg ha
    unfold V5 at hx
    split at hx
    ·rename_i u w e1 e2
     obtain rfl:=apO hx
     have g1:=IV.ir h0 hF e1 hm
     have g2:=IV.eh h0 hF e2 hn
     obtain⟨u1,w1,y1,y2,y3⟩:=fG (show fq (some 0) (i.lo F)=true from by simpa[yA]using ‹yA F i 0=true›)
     rw[e1]at y2
     obtain rfl:=apO y2
     obtain rfl:=apO y1
     rw[hq]
     refine Int.le_ediv_of_mul_le (by omega) ?_
     have q1:u/w*n≤u/w*w:=aqG g2 (Int.ediv_nonneg y3 (by omega))
     have q2:u/w*w≤u:=Int.ediv_mul_le u (by omega)
     omega
    ·obtain rfl:=apO hx;exact Int.tdiv_nonneg ha (by omega)
   ·obtain⟨y,z,e1,e2,rfl⟩:=SS hx
    have g1:=IV.eh h0 hF e1 hm
    have g2:=IV.ir h0 hF e2 hn
    obtain⟨u,w,w1,w2,w3⟩:=fG (show fq (some 1) (j.lo F)=true from e.2)
    rw[e2]at w2
    obtain rfl:=apO w2
    obtain rfl:=apO w1
    rw[Int.tdiv_eq_ediv_of_nonneg ha]
    refine Int.le_ediv_of_mul_le (by omega) ?_
    have q1:m/n*z≤m/n*n:=aqG g2 (Int.ediv_nonneg ha (by omega))
    have q2:m/n*n≤m:=Int.ediv_mul_le m (by omega)
    omega
  ·trivial
 case rem=>
  have hb:=pG h0 hF e.2 hn
  refine⟨e.1,by omega,hk _ (.int ?_)⟩
  split
  ·rename_i ha
   have ha:=pG h0 hF ha hm
   refine mJ (fun x hx=>?_) fun x hx=>?_
   ·obtain rfl:=apO hx;exact ar3 _ ha
   ·obtain⟨y,z,h1,h2,rfl⟩:=dZ hx
    have:=IV.eh h0 hF h1 hn
    have h3:m.tmod n<n:=arv _ (by omega)
    simp at h2
    omega
  ·have h3:m.tmod n<n:=arv _ (by omega)
   have h4: -n<m.tmod n:=Int.lt_tmod_of_pos _ (by omega)
   refine mJ (fun x hx=>?_) fun x hx=>?_
   ·obtain⟨y,z,h1,h2,rfl⟩:=Aq hx
    have:=IV.eh h0 hF h2 hn
    simp at h1
    omega
   ·obtain⟨y,z,h1,h2,rfl⟩:=dZ hx
    have:=IV.eh h0 hF h1 hn
    simp at h2
    omega
 case and=>exact⟨e,hk _ (.int (by unfold bits;exact wT kd _))⟩
 case or=>exact⟨e,hk _ (.int (by unfold bits;exact wT kd _))⟩
 case xor=>exact⟨e,hk _ (.int (by unfold bits;exact wT kd _))⟩
 case andNot=>exact⟨e,hk _ (.int (by unfold bits;exact wT kd _))⟩
 case shl=>exact⟨pG h0 hF e hn,hk _ (.int (mK h0 hF kd (i:=.top) trivial))⟩
 case shr=>
  have hb:=pG h0 hF e hn
  refine⟨hb,hk _ (.int ?_)⟩
  split
  ·rename_i ha
   have ha:=pG h0 hF ha hm
   have hp:(0:Int)<2^(min n.toNat kd.bits):=Int.pow_pos (by decide)
   refine mJ (fun x hx=>?_) fun x hx=>?_
   ·obtain rfl:=apO hx;exact Int.ediv_nonneg ha (by omega)
   ·have:=IV.eh h0 hF hx hm
    have h2:m/2^(min n.toNat kd.bits)≤m:=Int.ediv_le_self _ ha
    omega
  ·trivial
 case eql=>exact⟨e,hk _ (.bool (fun c hc=>sC (r:=fun a b=>a==b) (fun a b x=>NF a b x) hm hn hc) (fun hb=>by simp at hb;exact eE (fb hm hn (by omega)) (fb hn hm (by omega))) (fun hb=>ET h0 hF hm hn (by simpa using hb)))⟩
 case neq=>exact⟨e,hk _ (.bool (fun c hc=>sC (r:=fun a b=>a !=b) (fun a b x=>by simp only[bne,NF]) hm hn hc) (fun hb=>ET h0 hF hm hn (by simpa using hb)) (fun hb=>by simp at hb;exact eE (fb hm hn (by omega)) (fb hn hm (by omega))))⟩
 case lss=>exact⟨e,hk _ (.bool (fun c hc=>sC (r:=fun a b=>decide (a<b)) (by intro a b x;simp) hm hn hc) (fun hb=>by simp at hb;exact fb hm hn (by omega)) (fun hb=>by simp at hb;exact fb hn hm (by omega)))⟩
 case leq=>exact⟨e,hk _ (.bool (fun c hc=>sC (r:=fun a b=>decide (a≤b)) (by intro a b x;simp) hm hn hc) (fun hb=>by simp at hb;exact fb hm hn (by omega)) (fun hb=>by simp at hb;exact fb hn hm (by omega)))⟩
 case gtr=>exact⟨e,hk _ (.bool (fun c hc=>sC (r:=fun a b=>decide (b<a)) (by intro a b x;simp) hm hn hc) (fun hb=>by simp at hb;exact fb hn hm (by omega)) (fun hb=>by simp at hb;exact fb hm hn (by omega)))⟩
 case geq=>exact⟨e,hk _ (.bool (fun c hc=>sC (r:=fun a b=>decide (b≤a)) (by intro a b x;simp) hm hn hc) (fun hb=>by simp at hb;exact fb hn hm (by omega)) (fun hb=>by simp at hb;exact fb hm hn (by omega)))⟩
def NG(P:Program):Nat→TypeId→T→T→Bool
 |0,_,_,_=>false
 |d+1,t,x,y=>
  match P.underlying t with
  |some .bool=>(match x,y with|.bool _ _ _,.bool _ _ _=>true|_,_=>false)
  |some (.int _)=>(match x,y with|.int k _,.int k' _=>decide (k=k')|_,_=>false)
  |some .string=>(match x,y with|.str _,.str _=>true|_,_=>false)
  |some (.struct fs)=>(match x,y with
   |.agg xs,.agg ys=>!P.stoodInHeld t&&fs.toList.all fun f=>match tp P f.type xs f.offset,tp P f.type ys f.offset with
    |some a,some b=>NG P d f.type a b
    |_,_=>false
   |_,_=>false)
  |_=>false
theorem Lk{t:TypeId}{ts:List T}{vs:List V}(h:bg θ ts vs){off:Nat}{r:T}(hr:tp P t ts off=some r): ∃v,jd P t vs off=some v∧Has θ r v:=by
 unfold tp at hr
 unfold jd
 split at hr
 ·rename_i hu
  rw[hu]
  simp only[ap0]at hr
  obtain⟨n,hn,rfl⟩:=hr
  exact⟨_,by rw[hn];rfl,.agg (lS h off n).1 (lS h off n).2⟩
 ·rename_i hu
  rw[hu]
  obtain⟨v,hv⟩:=aC (l:=vs) (i:=off) (by rw[←h.1];exact(apN.1 hr).1)
  exact⟨v,hv,h.2 _ _ v hr hv⟩
 ·cases hr
theorem SV: ∀(d:Nat) (t:TypeId) (a b:T) (x y:V),NG P d t a b=true→Has θ a x→Has θ b y→ ∃r,dH P d t x y=some r:=by
 intro d
 induction d with
 |zero=>intro t a b x y h;simp[NG]at h
 |succ d ih=>
  intro t a b x y h ha hb
  simp only[NG]at h
  split at h
  ·rename_i hu
   split at h
   ·cases ha;cases hb;simp only[dH,hu];exact⟨_,rfl⟩
   ·cases h
  ·rename_i hu
   split at h
   ·simp only[decide_eq_true_eq]at h
    cases ha;cases hb;simp only[dH,hu,h,if_true];exact⟨_,rfl⟩
   ·cases h
  ·rename_i hu
   split at h
   ·cases ha;cases hb;simp only[dH,hu];exact⟨_,rfl⟩
   ·cases h
  ·rename_i fs hu
   split at h
   ·cases ha with
    |agg a1 a2=>
     cases hb with
     |agg b1 b2=>
      simp only[apP,aqC]at h
      simp only[dH,hu,h.1,aqo,if_false]
      have h2:=h.2
      clear h
      generalize fs.toList=L at h2
      induction L with
      |nil=>exact⟨true,rfl⟩
      |cons f L ihL=>
       simp only[List.all_cons,apP]at h2
       obtain⟨r,hr⟩:=ihL h2.2
       simp only[List.foldr_cons]
       rw[hr]
       have h1:=h2.1
       split at h1
       ·rename_i u w kY VR
        obtain⟨p,hp,hp2⟩:=Lk ⟨a1,a2⟩ kY
        obtain⟨q,hq,ru⟩:=Lk ⟨b1,b2⟩ VR
        obtain⟨e,he⟩:=ih _ _ _ _ _ h1 hp2 ru
        rw[hp,hq]
        simp only[he]
        split
        ·cases e<;>exact⟨_,rfl⟩
        ·exact⟨_,rfl⟩
       ·cases h1
   ·cases h
  ·cases h
def pH(i j:IV):IV:=
 match i,j with
 |.aH g c,.aH 0 d=>.aH g (c+d)
 |.aH 0 c,.aH g d=>.aH g (c+d)
 |.aH g c,.lQ a b d=>if b=g then .aH a (c+d)else .sum (.aH g c) (.lQ a b d)
 |.sum p (.aH b e),.aH 0 d=>.sum p (.aH b (e+d))
 |i,j=>.sum i j
theorem oJ(h0:θ[0]?=some 0)(hm:i.Has θ m)(hn:j.Has θ n):(pH i j).Has θ (m+n):=by
 unfold pH
 split
 ·obtain⟨x,h1,rfl⟩:=hm
  obtain⟨y,h2,rfl⟩:=hn
  rw[h0]at h2
  obtain rfl:=apO h2
  exact⟨x,h1,by omega⟩
 ·obtain⟨x,h1,rfl⟩:=hm
  obtain⟨y,h2,rfl⟩:=hn
  rw[h0]at h1
  obtain rfl:=apO h1
  exact⟨y,h2,by omega⟩
 ·split
  ·rename_i e
   subst e
   obtain⟨x,h1,rfl⟩:=hm
   obtain⟨y,z,h2,h3,rfl⟩:=hn
   rw[h1]at h3
   obtain rfl:=apO h3
   exact⟨y,h2,by omega⟩
  ·exact⟨m,n,hm,hn,rfl⟩
 ·obtain⟨x,y,h1,⟨z,h2,rfl⟩,rfl⟩:=hm
  obtain⟨u,h3,rfl⟩:=hn
  rw[h0]at h3
  obtain rfl:=apO h3
  exact⟨x,_,h1,⟨z,h2,rfl⟩,by omega⟩
 ·exact⟨m,n,hm,hn,rfl⟩
def Ux(P:Program)(F:List Fact)(op:BinOp)(xt:TypeId)(x y:T):Option T:=
 match x with
 |.int kd i=>(match y with|.int cH j=>Lj F op kd i cH j|_=>none)
 |.str i=>(match y with
  |.str j=>(match op with
   |.add=>if fq (jj (i.hi F) (j.hi F)) (some 9223372036854775807)then some (.str (pH i j))else none
   |.eql|.neq|.lss|.leq|.gtr|.geq=>some (.bool none [] [])
   |_=>none)
  |_=>none)
 |.bool _ _ _=>(match y with
  |.bool _ _ _=>(match op with
   |.eql|.neq=>if NG P 20 xt x y then some (.bool none [] [])else none
   |_=>none)
  |_=>none)
 |.agg _=>(match op with
   |.eql|.neq=>if !P.eqGuardType P.depth xt&&NG P 20 xt x y then some (.bool none [] [])else none
   |_=>none)
 |_=>none
theorem PO{b:Bool}:Has θ (.bool none [] []) (.bool b):=.bool (fun c h=>by simp at h) (fun _=>cr) (fun _=>cr)
theorem Xa{op:BinOp}{xt yt:TypeId}{x y:Operand}{t:T}(h:Ux P F op xt (oT E x) (oT E y)=some t):dx P F E R id (.binOp op xt x y yt) t []:=dw fun θ s rows k hO hk=>by
 have h1:=bJ hO x
 have h2:=bJ hO y
 simp only[bF]
 generalize oT E x=X at h h1
 generalize oT E y=Y at h h2
 generalize ax s x=vx at h1
 generalize ax s y=vy at h2
 unfold Ux at h
 split at h
 ·split at h
  ·cases h1 with
   |int p=>cases h2 with|int q=>exact SU hO.zero hO.facts h p q hk
  ·cases h
 ·split at h
  ·cases h1 with
   |@str _ a p=>
    cases h2 with
    |@str _ b q=>
     simp only[vA]
     split at h
     ·obtain⟨hle,rfl⟩:=aG h
      obtain⟨u,w,e1,e2,e3⟩:=fG hle
      obtain⟨y1,z1,f1,f2,rfl⟩:=dZ e1
      have g1:=IV.eh hO.zero hO.facts f1 p
      have g2:=IV.eh hO.zero hO.facts f2 q
      exact⟨by simp at e2;omega,hk _ (.str (by simpa using oJ hO.zero p q))⟩
     all_goals first|(cases h;done)|(obtain rfl:=apO h;exact hk _ PO)
  ·cases h
 ·split at h
  ·have key: ∀{x y:V},Has θ _ x→Has θ _ y→ ∃r,dH P 20 xt x y=some r:=fun{x y} hx hy=>by
    split at h
    all_goals first|(cases h;done)|(obtain⟨e,-⟩:=aG h;exact SV 20 xt _ _ x y e hx hy)
   obtain⟨r,hr⟩:=key h1 h2
   cases h1
   cases h2
   simp only[vA]
   split at h
   all_goals first
    |(cases h;done)
    |(obtain⟨-,rfl⟩:=aG h;exact⟨rfl,trivial,r,hr,hk _ PO⟩)
  ·cases h
 ·have key: ∀{x y:V},Has θ _ x→Has θ _ y→P.eqGuardType P.depth xt=false∧ ∃r,dH P 20 xt x y=some r:=fun{x y} hx hy=>by
   split at h
   all_goals first|(cases h;done)|(obtain⟨hc,-⟩:=aG h;simp only[apP,aqC]at hc;exact⟨hc.1,SV 20 xt _ _ x y hc.2 hx hy⟩)
  obtain⟨hg,r,hr⟩:=key h1 h2
  cases h1
  simp only[vA]
  split at h
  all_goals first
   |(cases h;done)
   |(obtain⟨-,rfl⟩:=aG h;exact⟨rfl,hg,r,hr,hk _ PO⟩)
 ·cases h
def unT(op:UnOp)(x:T):Option T:=
 match op,x with
 |.neg,.int kd _=>some (.int kd .top)
 |.xor,.int kd _=>some (.int kd .top)
 |.not,.bool o y n=>some (.bool (o.map (!·)) n y)
 |_,_=>none
theorem aam{op:UnOp}{xt:TypeId}{x:Operand}{t:T}(h:unT op (oT E x)=some t):dx P F E R id (.unOp op xt x) t []:=dw fun θ s rows k hO hk=>by
 have h1:=bJ hO x
 simp only[bF]
 generalize oT E x=X at h h1
 generalize ax s x=vx at h1
 unfold unT at h
 split at h
 ·obtain rfl:=apO h;cases h1;exact hk _ (.int trivial)
 ·obtain rfl:=apO h;cases h1;exact hk _ (.int trivial)
 ·obtain rfl:=apO h
  cases h1 with
  |bool p q r=>
   refine hk _ (.bool (fun c hc=>?_) (fun hb=>r (by simpa using hb)) (fun hb=>q (by simpa using hb)))
   simp only[ap0]at hc
   obtain⟨d,hd,rfl⟩:=hc
   rw[p d hd]
 ·cases h
end
end
end Go.Ck
set_option linter.unusedSectionVars false
namespace Go.Ck
noncomputable section
open Go.VS
variable [eb]
section
variable {P : Program} {θ : List Int} {F : List Fact} {E : SL} {R : List AR} {id : Nat} {s : List V} {rows : List Row} {i j : IV} {m n : Int}
theorem Cx.row(h:Cx θ F E R s rows){j:Nat}{a:AR}(ha:R[j]?=some a): ∃r,rows[j]?=some r∧cX θ a r:=by
 obtain⟨r,hr⟩:=aC (l:=rows) (i:=j) (by rw[←h.di];exact(apN.1 ha).1)
 exact⟨r,hr,h.rows j a r ha hr⟩
theorem oG{a:AR}{r:Row}(hf:dB rows id)(h:cX θ a r):uF θ rows (da rows id r) [(id,a)]:=by
 have hle:id≤rows.length:=by
  rcases hf with h|h
  ·omega
  ·exact aqx (apN.1 h).1
 refine⟨fun j hj=>?_,fun j b hb=>?_⟩
 ·rw[bH hle,if_neg]
  rintro rfl
  exact hj a (by simp)
 ·obtain⟨rfl,rfl⟩:=aq7 (aqn.1 hb)
  exact⟨r,by rw[bH hle,if_pos rfl],h⟩
theorem NH{a:AR}{r:Row}{j:Nat}(hj:j<rows.length)(h:cX θ a r):uF θ rows (rows.set j r) [(j,a)]:=by
 refine⟨fun i hi=>?_,fun i b hb=>?_⟩
 ·rw[ap6]
  rintro rfl
  exact hi a (by simp)
 ·obtain⟨rfl,rfl⟩:=aq7 (aqn.1 hb)
  exact⟨r,by simp[hj],h⟩
def T.one:T→Bool
 |.any|.undef|.agg _|.aB _|.alt _ _=>false
 |_=>true
def cellsOf(t:T):Option (List T):=
 match t with
 |.agg l=>some l
 |t=>if t.one then some [t]else none
theorem Has.one{t:T}{v:V}(h:Has θ t v)(ho:t.one=true):v.one=true:=by
 cases h<;>first|rfl|simp[T.one]at ho
theorem yj{t:T}{v:V}{l:List T}(hc:cellsOf t=some l)(h:Has θ t v): ∃vs,eH v=some vs∧bg θ l vs:=by
 unfold cellsOf at hc
 split at hc
 ·obtain rfl:=apO hc
  cases h with
  |agg h1 h2=>exact⟨_,rfl,h1,h2⟩
 ·split at hc
  ·rename_i ho
   obtain rfl:=apO hc
   refine⟨[v],?_,rfl,fun i t v h1 h2=>?_⟩
   ·have h1:=h.one ho
    cases h<;>first|rfl|simp[T.one]at ho
   ·cases i with
    |zero=>simp at h1 h2;subst h1;subst h2;exact h
    |succ i=>simp at h1
  ·cases hc
def EU:List T→Nat→List T→List T
 |cs,_,[]=>cs
 |cs,i,v::r=>EU (cs.set i v) (i+1) r
theorem SW{ts:List T}{vs:List V}(h:bg θ ts vs)(i:Nat){t:T}{v:V}(hv:Has θ t v):bg θ (ts.set i t) (vs.set i v):=by
 exact h.set i hv
theorem FW: ∀{l:List T} {ls:List V} {ts:List T} {vs:List V} {i:Nat},bg θ ts vs→bg θ l ls→bg θ (EU ts i l) (eB vs i ls)
 |[],[],_,_,_,h,_=>h
 |[],_::_,_,_,_,_,h=>by have:=h.1;simp at this
 |_::_,[],_,_,_,_,h=>by have:=h.1;simp at this
 |t::l,v::ls,ts,vs,i,h,hl=>by
  simp only[EU,eB]
  refine FW (SW h i (hl.2 0 t v rfl rfl)) ⟨by have:=hl.1;simpa using this,fun j a b h1 h2=>hl.2 (j+1) a b (by simpa using h1) (by simpa using h2)⟩
def Au(place:Nat→Option (Nat×Nat))(E:SL):List (Nat×Operand)→List T→Option (List T)
 |[],cs=>some cs
 |(i,x)::r,cs=>match place i,cellsOf (oT E x)with
  |some (off,sz),some vs=>if vs.length=sz∧off+sz≤cs.length then Au place E r (EU cs off vs)else none
  |_,_=>none
theorem CZ(h:Cx θ F E R s rows){place:Nat→Option (Nat×Nat)}{k:List V→Prop}: ∀{parts:List (Nat×Operand)} {ts:List T} {vs:List V} {l:List T},Au place E parts ts=some l→bg θ ts vs→(∀ws,bg θ l ws→k ws)→nQ place (ax s) parts vs k
 |[],ts,vs,l,hf,ht,hk=>by
  obtain rfl:=apO hf
  exact hk vs ht
 |(i,x)::r,ts,vs,l,hf,ht,hk=>by
  simp only[Au]at hf
  split at hf
  ·rename_i off sz us hp hc
   split at hf
   ·rename_i hle
    obtain⟨ws,hw,hl⟩:=yj hc (bJ h x)
    exact⟨off,sz,ws,hp,hw,by rw[←hl.1];exact hle.1,by rw[←ht.1];exact hle.2,CZ h hf (FW ht hl) hk⟩
   ·cases hf
  ·cases hf
def u0(P:Program)(t:TypeId):Option (List T):=(ag P t).map (·.map vT)
theorem Xw(h0:θ[0]?=some 0)(z:List V):bg θ (z.map vT) z:=
 ⟨by simp,fun i t v h1 h2=>by rw[apZ,h2]at h1;obtain rfl:=apO h1;exact uE h0 v⟩
theorem py{t:TypeId}{l:List T}(h:u0 P t=some l)(h0:θ[0]?=some 0): ∃z,ag P t=some z∧bg θ l z:=by
 simp only[u0,ap0]at h
 obtain⟨z,h1,rfl⟩:=h
 exact⟨z,h1,Xw h0 z⟩
abbrev zR:Type:=Option (T×List (Nat×AR))
theorem RY{e:TypeId}{l:List T}(h:u0 P e=some l):dx P F E R id (.alloc e) (.ref id 0) [(id,.cells l)]:=fun θ s rows k hO hf hk=>by
 obtain⟨z,h1,h2⟩:=py h hO.zero
 exact⟨z,h1,hf,hk _ _ .ref (oG hf h2)⟩
theorem W9{e:TypeId}{x:Operand}{l:List T}(h:cellsOf (oT E x)=some l):dx P F E R id (.box e x) (.ref id 0) [(id,.cells l)]:=fun θ s rows k hO hf hk=>by
 obtain⟨vs,h1,h2⟩:=yj h (bJ hO x)
 exact⟨vs,h1,hf,hk _ _ .ref (oG hf h2)⟩
def Kx(P:Program)(E:SL)(t:TypeId)(parts:List (Nat×Operand)):Option T:=
 match u0 P t with
 |some z=>if(ba P t).isSome then(Au (l8 P t) E parts z).map .agg else none
 |none=>none
theorem RZ{t:TypeId}{parts:Array (Nat×Operand)}{r:T}(h:Kx P E t parts.toList=some r):dx P F E R id (.build t parts) r []:=dw fun θ s rows k hO hk=>by
 unfold Kx at h
 split at h
 ·rename_i z hz
  split at h
  ·rename_i hp
   simp only[ap0]at h
   obtain⟨l,h1,rfl⟩:=h
   obtain⟨zv,h2,h3⟩:=py hz hO.zero
   exact⟨zv,h2,hp,CZ hO h1 h3 fun ws hw=>hk _ (.agg hw.1 hw.2)⟩
  ·cases h
 ·cases h
def vv(P:Program)(E:SL)(t:TypeId)(len:Nat)(parts:List (Nat×Operand)):Option (Nat×List T):=
 match bt P t with
 |some e=>match dW P e,u0 P e with
  |some sz,some z=>if z.length=sz∧len*sz≤4096 then(Au (fun i=>some (i*sz,sz)) E parts (List.replicate len z).flatten).map fun l=>(sz,l)else none
  |_,_=>none
 |none=>none
theorem CK{a b:List T}{x y:List V}(h:bg θ a x)(h2:bg θ b y):bg θ (a++b) (x++y):=by
 refine⟨by simp[h.1,h2.1],fun i t v h3 h4=>?_⟩
 rw[aqq]at h3 h4
 rw[h.1]at h3
 split at h3
 ·rename_i hi
  rw[if_pos hi]at h4
  exact h.2 i t v h3 h4
 ·rename_i hi
  rw[if_neg hi]at h4
  exact h2.2 _ t v h3 h4
theorem xW{z:List T}{zv:List V}(h:bg θ z zv): ∀n,bg θ (List.replicate n z).flatten (List.replicate n zv).flatten
 |0=>⟨rfl,fun i t v h=>by simp at h⟩
 |n+1=>by simp only[List.replicate_succ,aqN];exact CK h (xW h n)
theorem FI{t:TypeId}{len:Nat}{parts:Array (Nat×Operand)}{sz:Nat}{l:List T}(h:vv P E t len parts.toList=some (sz,l)):
  dx P F E R id (.buildSlice t len parts) (.av id (.aH 0 len) sz) [(id,.cells l)]:=fun θ s rows k hO hf hk=>by
 unfold vv at h
 split at h
 ·rename_i e he
  split at h
  ·rename_i cG z cm hz
   split at h
   ·rename_i hle
    simp only[ap0]at h
    obtain⟨l',h1,h2⟩:=h
    obtain⟨rfl,rfl⟩:=aq7 h2
    obtain⟨zv,h3,h4⟩:=py hz hO.zero
    exact⟨e,_,zv,he,cm,h3,by rw[←h4.1];exact hle.1,by omega,hf,CZ hO h1 (xW h4 len) fun ws hw=>hk _ _ (.av ⟨0,hO.zero,by omega⟩) (oG hf hw)⟩
   ·cases h
  ·cases h
 ·cases h
def xX(P:Program)(F:List Fact)(t:TypeId)(l c:T):Option (IV×Nat×List T):=
 match l,c with
 |.int _ i,.int _ j=>(match bt P t with
  |some e=>(match dW P e,nH P e,u0 P e with
   |some sz,some db,some z=>if z.length=sz∧notNil z∧nK F i 0∧i.le F j∧j.le F i∧fq (j.hi F) (some 4611686018427387904)∧fq ((j.hi F).map (db* ·)) (some 281474976710656)then some (i,sz,z)else none
   |_,_,_=>none)
  |none=>none)
 |_,_=>none
theorem HF{t:TypeId}{l c:Operand}{i:IV}{sz:Nat}{z:List T}(h:xX P F t (oT E l) (oT E c)=some (i,sz,z)):
  dx P F E R id (.makeSlice t l c) (.av id i sz) [(id,.arr i z)]:=fun θ s rows k hO hf hk=>by
 have h1:=bJ hO l
 have h2:=bJ hO c
 simp only[bF]
 generalize oT E l=X at h h1
 generalize oT E c=Y at h h2
 generalize ax s l=vx at h1
 generalize ax s c=vy at h2
 unfold xX at h
 split at h
 ·split at h
  ·rename_i e he
   split at h
   ·rename_i cG db z' cm yn hz
    obtain⟨hc,h⟩:=aG h
    simp only[apX]at h
    obtain⟨rfl,rfl,rfl⟩:=h
    obtain⟨c1,c2,c3,c4,c5,c6,c7⟩:=hc
    cases h1 with
    |@int _ _ a p=>
     cases h2 with
     |@int _ _ b q=>
      obtain⟨zv,h3,h4⟩:=py hz hO.zero
      have g1:=Ar hO.zero hO.facts c3 p
      have g2:=IV.fL hO.zero hO.facts c4 p q
      have g3:=IV.fL hO.zero hO.facts c5 q p
      obtain rfl:a=b:=by omega
      obtain⟨x,y,e1,e2,e3⟩:=fG c6
      have g4:=IV.eh hO.zero hO.facts e1 q
      rw[e1]at c7
      simp only[aqU,fq,hP]at c7
      simp at e2
      refine⟨e,_,db,zv,he,cm,yn,h3,by rw[←h4.1];exact c1,g1,by omega,by omega,?_,hf,hk _ _ (.av ?_) (oG hf ?_)⟩
      ·have:(db:Int)*a≤db*x:=aqG g4 (aqS _)
       omega
      ·rwa[arL g1]
      ·refine⟨ea c2,⟨a.toNat,by rwa[arL g1],?_⟩,fun j t v h5 h6=>?_⟩
       ·simp[uN,h4.1]
       ·have hr:=xW h4 a.toNat
        have hj:j<(List.replicate a.toNat zv).flatten.length:=(apN.1 h6).1
        have cI:=jA c2
        have key: ∀(n:Nat) (j:Nat) (x:V),(List.replicate n zv).flatten[j]?=some x→zv[j%zv.length]?=some x:=by
         intro n
         induction n with
         |zero=>intro j x h;simp at h
         |succ n ih=>
          intro j x h
          simp only[List.replicate_succ,aqN]at h
          rw[aqq]at h
          split at h
          ·rename_i aO;rwa[aq1 aO]
          ·rename_i D3
           have:=ih _ _ h
           rwa[←arQ (by omega)]at this
        have h7:=key _ _ _ h6
        rw[←h4.1]at h7
        exact h4.2 _ t v h5 h7
   ·cases h
  ·cases h
 ·cases h
def xY(P:Program)(t:TypeId)(x:T)(f:Nat):Option T:=
 match tq P t f with
 |some (ft,o)=>match dW P ft with
  |some (_+1)=>(match x with
   |.ref id off=>some (.ref id (off+o))
   |.fy id sub sz i=>some (.fy id (sub+o) sz i)
   |.aL e=>if o<e.length then some (.aL (e.drop o))else none
   |_=>none)
  |_=>none
 |none=>none
theorem HG{t:TypeId}{x:Operand}{f:Nat}{r:T}(h:xY P t (oT E x) f=some r):dx P F E R id (.fieldAddr t x f) r []:=dw fun θ s rows k hO hk=>by
 have h1:=bJ hO x
 simp only[bF]
 generalize oT E x=X at h h1
 generalize ax s x=vx at h1
 unfold xY at h
 split at h
 ·rename_i ft o hf
  split at h
  ·rename_i n hn
   refine⟨ft,o,n,hf,hn,?_⟩
   split at h
   ·obtain rfl:=apO h;cases h1;exact hk _ .ref
   ·obtain rfl:=apO h
    cases h1 with
    |fy p=>
     refine hk _ ?_
     rw[aq8]
     exact .fy p
   ·obtain⟨ho,rfl⟩:=aG h
    cases h1 with
    |aL p q r=>
     refine hk _ (.aL (by intro he;have:=congrArg List.length he;simp at this;omega) (by simp;omega) fun i t v a b=>?_)
     rw[aqb]at a b
     exact r _ t v a b
   ·cases h
  ·cases h
 ·cases h
def xZ(P:Program)(F:List Fact)(t:TypeId)(x ix:T):Option T:=
 match ix with
 |.int _ i=>(match bt P t with
  |some e=>(match dW P e with
   |some sz=>(match x with
    |.sl l es=>if es.length=sz∧notNil es∧nK F i 0∧(pH i (.aH 0 1)).le F l then some (.aL es)else none
    |.av id l cG=>if cG=sz∧nK F i 0∧(pH i (.aH 0 1)).le F l then some (.fy id 0 sz i)else none
    |_=>none)
   |none=>none)
  |none=>none)
 |_=>none
theorem Ll{e:List T}{cs:List V}{m k:Nat}(hc:cs.length=m*e.length)(hk:k<m)(hp:0<e.length)(h: ∀(i:Nat) t v,e[i%e.length]?=some t→cs[i]?=some v→Has θ t v):
  e.length≤(cs.drop (k*e.length)).length∧ ∀(i:Nat) t v,e[i]?=some t→(cs.drop (k*e.length))[i]?=some v→Has θ t v:=by
 have h1:(k+1)*e.length≤m*e.length:=aqI _ hk
 rw[arb]at h1
 refine⟨by simp;omega,fun i t v a b=>?_⟩
 rw[aqb]at b
 refine h _ t v ?_ b
 have hi:=(apN.1 a).1
 rw[aru,ar5,aq1 hi]
 exact a
theorem HH{t:TypeId}{x ix:Operand}{r:T}(h:xZ P F t (oT E x) (oT E ix)=some r):dx P F E R id (.indexAddr t x ix) r []:=dw fun θ s rows k hO hk=>by
 have h1:=bJ hO x
 have h2:=bJ hO ix
 simp only[bF]
 generalize oT E x=X at h h1
 generalize ax s x=vx at h1
 generalize oT E ix=Y at h h2
 generalize ax s ix=vy at h2
 unfold xZ at h
 split at h
 ·cases h2 with
  |@int _ _ a p=>
   split at h
   ·rename_i e he
    split at h
    ·rename_i sz cm
     split at h
     ·rename_i l es
      obtain⟨⟨c1,c2,c3,c4⟩,rfl⟩:=aG h
      have g1:=Ar hO.zero hO.facts c3 p
      have hs:=oJ hO.zero p (n:=1) (j:=.aH 0 1) ⟨0,hO.zero,by omega⟩
      cases h1 with
      |kW q _=>have:=IV.fL hO.zero hO.facts c4 hs q;omega
      |@sl _ _ m cs q q2 q3 q4=>
       have g2:=IV.fL hO.zero hO.facts c4 hs q
       have zo:a.toNat<m:=by omega
       obtain⟨d1,d2⟩:=Ll q3 zo (jA c2) q4
       rw[c1]at d1 d2
       exact⟨e,sz,he,cm,g1,by omega,hk _ (.aL (ea c2) (by rw[c1];exact d1) d2)⟩
     ·rename_i jV l cG
      obtain⟨⟨rfl,c3,c4⟩,rfl⟩:=aG h
      have g1:=Ar hO.zero hO.facts c3 p
      have hs:=oJ hO.zero p (n:=1) (j:=.aH 0 1) ⟨0,hO.zero,by omega⟩
      cases h1 with
      |av q=>
       have g2:=IV.fL hO.zero hO.facts c4 hs q
       refine⟨e,he,cm,g1,by omega,hk _ ?_⟩
       have:Has θ (.fy jV 0 cG _) (.ref jV (a.toNat*cG+0)):=.fy (by rwa[arL g1])
       simpa using this
     ·cases h
    ·cases h
   ·cases h
 ·cases h
def KA(P:Program)(F:List Fact)(t:TypeId)(x ix:T):Option T:=
 match x,ix with
 |.str l,.int _ i=>if fP P t∧nK F i 0∧(pH i (.aH 0 1)).le F l then some (.int .u8 (.aR 0 255))else none
 |_,_=>none
theorem Er(b:UInt8):(IV.aR 0 255).Has θ (b.toNat:Int):=by
 have:=b.toNat_lt
 exact⟨by omega,by omega⟩
theorem R2{t:TypeId}{x ix:Operand}{r:T}(h:KA P F t (oT E x) (oT E ix)=some r):dx P F E R id (.index t x ix) r []:=dw fun θ s rows k hO hk=>by
 have h1:=bJ hO x
 have h2:=bJ hO ix
 simp only[bF]
 generalize oT E x=X at h h1
 generalize ax s x=vx at h1
 generalize oT E ix=Y at h h2
 generalize ax s ix=vy at h2
 unfold KA at h
 split at h
 ·obtain⟨⟨c1,c3,c4⟩,rfl⟩:=aG h
  cases h1 with
  |@str _ l p=>
   cases h2 with
   |@int _ _ a q=>
    have g1:=Ar hO.zero hO.facts c3 q
    have hs:=oJ hO.zero q (n:=1) (j:=.aH 0 1) ⟨0,hO.zero,by omega⟩
    have g2:=IV.fL hO.zero hO.facts c4 hs p
    obtain⟨b,hb⟩:=aC (l:=l) (i:=a.toNat) (by omega)
    exact⟨c1,g1,b,hb,hk _ (.int (Er b))⟩
 ·cases h
def u7(F:List Fact)(i j:IV):IV:=kI (match i.lo F,j.lo F with|some a,some b=>some (bif eM a b then a else b)|_,_=>none) (match i.hi F,j.hi F with|some a,some b=>some (bif eM a b then b else a)|_,_=>none)
def SX(F:List Fact)(a b:T):T:=
 match a,b with
 |.int k i,.int _ j=>.int k (u7 F i j)
 |.str i,.str j=>.str (u7 F i j)
 |.lit b,.str j=>.str (u7 F (.aH 0 b.length) j)
 |.str j,.lit b=>.str (u7 F (.aH 0 b.length) j)
 |.lit b,.lit c=>bif jT b c then .lit b else .str (u7 F (.aH 0 b.length) (.aH 0 c.length))
 |.sl i e,.sl j _=>.sl (u7 F i j) e
 |.aj,.sl j e=>.sl (u7 F (.aH 0 0) j) e
 |.sl j e,.aj=>.sl (u7 F (.aH 0 0) j) e
 |.bool _ _ _,.bool _ _ _=>.bool none [] []
 |a,_=>a
def V6(F:List Fact)(a b:T):T:=
 match a,b with
 |.agg l,.agg m=>.agg (List.zipWith (SX F) l m)
 |a,b=>SX F a b
def chunks(P:Program)(t:TypeId)(l:List T)(sub sz:Nat):Nat→Option (List T)
 |0=>some []
 |c+1=>match ke P t l (c*sz+sub),chunks P t l sub sz c with
  |some a,some r=>some (a::r)
  |_,_=>none
def FX(F:List Fact):List T→T
 |[]=>.any
 |[a]=>a
 |a::l=>V6 F a (FX F l)
def loadT(P:Program)(F:List Fact)(R:List AR)(t:TypeId)(x:T):Option T:=
 match x with
 |.aL e=>ke P t e 0
 |.ref id off=>(match R[id]? with
  |some (.cells l)=>ke P t l off
  |_=>none)
 |.fy id sub sz i=>(match R[id]? with
  |some (.arr n e)=>if e.length=sz∧nK F i 0∧(pH i (.aH 0 1)).le F n then ke P t e sub else none
  |some (.cells l)=>if nK F i 0∧(pH i (.aH 0 1)).le F (.aH 0 (l.length/sz:Nat))then(match chunks P t l sub sz (l.length/sz)with
    |some cs=>(let j:=FX F cs;if cs.all (fH F 6 · j)then some j else none)
    |none=>none)else none
  |_=>none)
 |_=>none
theorem Hm{t:TypeId}{l:List T}{sub sz:Nat}: ∀{c:Nat} {cs:List T},chunks P t l sub sz c=some cs→ ∀k,k<c→ ∃a,a∈cs∧ke P t l (k*sz+sub)=some a
 |0,cs,_,k,hk=>by omega
 |c+1,cs,h,k,hk=>by
  simp only[chunks]at h
  split at h
  ·rename_i a r ha hr
   obtain rfl:=apO h
   by_cases e:k=c
   ·subst e;exact⟨a,by simp,ha⟩
   ·obtain⟨b,h1,h2⟩:=Hm hr k (by omega)
    exact⟨b,by simp[h1],h2⟩
  ·cases h
theorem Cb{t:TypeId}{l:List T}{off:Nat}{r:T}(h:ke P t l off=some r):l≠ []:=by
 rintro rfl
 unfold ke at h
 split at h
 ·split at h
  ·obtain⟨h,-⟩:=aG h;simp at h;omega
  ·cases h
 ·simp at h
 ·cases h
theorem Hn{t:TypeId}{ts:List T}{vs:List V}{off:Nat}{r:T}(hr:ke P t ts off=some r)(h:bg θ ts vs){k:V→Prop}(hk: ∀v,Has θ r v→k v):gr P t vs off k:=
 xw hr (fun i u hu=>by
  obtain⟨v,hv⟩:=aC (l:=vs) (i:=off+i) (by rw[←h.1];exact(apN.1 hu).1)
  exact⟨v,hv,h.2 _ u v hu hv⟩) hk
theorem Cv{t:TypeId}{x:Operand}{r:T}(h:loadT P F R t (oT E x)=some r):dx P F E R id (.load t x) r []:=dw fun θ s rows k hO hk=>by
 have h1:=bJ hO x
 simp only[bF]
 generalize oT E x=X at h h1
 generalize ax s x=vx at h1
 unfold loadT at h
 split at h
 ·rename_i e
  cases h1 with
  |@aL _ cs p q r=>
   exact xw h (fun i u hu=>by
    rw[aq6]at hu⊢
    obtain⟨v,hv⟩:=aC (l:=cs) (i:=i) (by have:=(apN.1 hu).1;omega)
    exact⟨v,hv,r _ u v hu hv⟩) hk
 ·split at h
  ·rename_i l hl
   obtain⟨r,hr,dN⟩:=hO.row hl
   cases h1
   cases r with
   |live cs=>
    refine⟨cs,hr,?_,Hn h dN hk⟩
    rintro rfl
    have:=dN.1
    simp at this
    exact Cb h this
   |_=>exact dN.elim
  ·cases h
 ·rename_i jV sub sz i
  cases h1 with
  |@fy _ _ _ _ j p=>
  split at h
  ·rename_i n e hl
   obtain⟨⟨c1,c2,c3⟩,h⟩:(e.length=sz∧nK F i 0=true∧(pH i (.aH 0 1)).le F n=true)∧ke P t e sub=some r:=by
    split at h
    ·exact⟨‹_›,h⟩
    ·cases h
   obtain⟨r',hr,dN⟩:=hO.row hl
   cases r' with
   |live cs=>
    obtain⟨k1,⟨m,k2,k3⟩,k4⟩:=dN
    have hs:=oJ hO.zero p (n:=1) (j:=.aH 0 1) ⟨0,hO.zero,by omega⟩
    have g2:=IV.fL hO.zero hO.facts c3 hs k2
    have cI:0<e.length:=aqj.2 k1
    obtain⟨d1,d2⟩:=Ll k3 (k:=j) (by omega) cI k4
    simp only[apU]at d1
    refine⟨cs,hr,by rintro rfl;simp only[aqh]at d1;omega,xw h (fun q u hu=>?_) hk⟩
    have hq:=(apN.1 hu).1
    obtain⟨v,hv⟩:=aC (l:=cs.drop (j*e.length)) (i:=sub+q) (by simp;omega)
    refine⟨v,?_,d2 _ u v hu hv⟩
    rw[aqb,c1]at hv
    rw[aq8]
    exact hv
   |_=>exact dN.elim
  ·rename_i l hl
   obtain⟨⟨c2,c3⟩,h⟩:(nK F i 0=true∧(pH i (.aH 0 1)).le F (.aH 0 (l.length/sz:Nat))=true)∧(match chunks P t l sub sz (l.length/sz)with
    |some cs=>(let j:=FX F cs;if cs.all (fH F 6 · j)then some j else none)
    |none=>none)=some r:=by
    split at h
    ·exact⟨‹_›,h⟩
    ·cases h
   split at h
   ·rename_i cs gq
    obtain⟨hall,rfl⟩:=aG h
    obtain⟨r',hr,dN⟩:=hO.row hl
    cases r' with
    |live us=>
     have hs:=oJ hO.zero p (n:=1) (j:=.aH 0 1) ⟨0,hO.zero,by omega⟩
     have g2:=IV.fL hO.zero hO.facts c3 hs (n:=((l.length/sz:Nat):Int)) ⟨0,hO.zero,by omega⟩
     obtain⟨a,ha,hac⟩:=Hm gq j (by omega)
     refine⟨us,hr,?_,Hn hac dN fun v hv=>hk v (kf hO.zero hO.facts 6 a _ v (ap1.1 hall a ha) hv)⟩
     rintro rfl
     have:=dN.1
     simp at this
     exact Cb hac this
    |_=>exact dN.elim
   ·cases h
  ·cases h
 ·cases h
def storeT(P:Program)(F:List Fact)(R:List AR)(t:TypeId)(x v:T):Option (List (Nat×AR)):=
 match cellsOf v,dW P t with
 |some vs,some n=>if vs.length=n∧vs.all T.one then(match x with
  |.ref id off=>(match R[id]? with
   |some (.cells l)=>if l.length≠0∧off+n≤l.length then some [(id,.cells (EU l off vs))]else none
   |_=>none)
  |.fy id sub sz i=>(match R[id]? with
   |some (.arr m e)=>if e.length=sz∧sub+n≤sz∧nK F i 0∧(pH i (.aH 0 1)).le F m∧dm (fH F 6) vs ((e.drop sub).take n)then some [(id,.arr m e)]else none
   |_=>none)
  |_=>none)else none
 |_,_=>none
theorem nZ: ∀{vs cs:List V} {off i:Nat},(eB cs off vs)[i]?=if off≤i∧i<off+vs.length∧i<cs.length then vs[i-off]? else cs[i]?
 |[],cs,off,i=>by
  rw[if_neg]
  ·rfl
  ·simp;omega
 |v::vs,cs,off,i=>by
  simp only[eB]
  rw[nZ,aqB]
  simp only[arO,apS]
  by_cases h:off=i
  ·subst h
   rw[if_neg (by omega),if_pos rfl]
   by_cases hl:off<cs.length
   ·rw[if_pos hl,if_pos (by omega)];simp
   ·rw[if_neg hl,if_neg (by omega),aql (by omega)]
  ·by_cases h2:off+1≤i∧i<off+1+vs.length∧i<cs.length
   ·rw[if_pos h2,if_pos (by omega),show i-off=(i-(off+1))+1 by omega];simp
   ·rw[if_neg h2,if_neg h,if_neg (by omega)]
theorem R0{t:TypeId}{x v:Operand}{u:List (Nat×AR)}(h:storeT P F R t (oT E x) (oT E v)=some u):dx P F E R id (.store t x v) .any u:=fun θ s rows k hO hf hk=>by
 have h1:=bJ hO x
 have h2:=bJ hO v
 simp only[bF]
 generalize oT E x=X at h h1
 generalize ax s x=vx at h1
 generalize oT E v=Y at h h2
 generalize ax s v=vy at h2
 unfold storeT at h
 split at h
 ·rename_i vs n hv hn
  obtain⟨ws,w1,w2⟩:=yj hv h2
  split at h
  ·rename_i hc
   have qf: ∀c∈ws,c.one=true:=by
    intro c c8
    obtain⟨i,hi⟩:=aqm.1 c8
    obtain⟨a,ha⟩:=aC (l:=vs) (i:=i) (by rw[w2.1];exact(apN.1 hi).1)
    exact(w2.2 i a c ha hi).one (ap1.1 hc.2 a (aqg ha))
   have vW:ws.length=n:=by rw[←w2.1];exact hc.1
   split at h
   ·split at h
    ·rename_i l hl
     obtain⟨⟨g1,g2⟩,rfl⟩:=aG h
     obtain⟨r,hr,dN⟩:=hO.row hl
     cases h1
     cases r with
     |live cs=>
      have hlen:l.length=cs.length:=dN.1
      refine⟨cs,ws,n,hr,by rintro rfl;simp only[aqh]at hlen;omega,w1,hn,vW,by omega,qf,hk _ _ .any (NH (apN.1 hr).1 (FW dN w2))⟩
     |_=>exact dN.elim
    ·cases h
   ·rename_i jV sub sz i
    cases h1 with
    |@fy _ _ _ _ j p=>
    split at h
    ·rename_i m e hl
     obtain⟨⟨c1,c0,c2,c3,c4⟩,rfl⟩:=aG h
     obtain⟨r,hr,dN⟩:=hO.row hl
     cases r with
     |live cs=>
      obtain⟨k1,⟨q,k2,k3⟩,k4⟩:=dN
      have hs:=oJ hO.zero p (n:=1) (j:=.aH 0 1) ⟨0,hO.zero,by omega⟩
      have g2:=IV.fL hO.zero hO.facts c3 hs k2
      obtain⟨a1,a2⟩:=iJ c4
      have cI:0<e.length:=aqj.2 k1
      simp only[apT,apU]at a1
      have hj:(j+1)*e.length≤q*e.length:=aqI _ (by omega)
      rw[arb]at hj
      rw[c1]at hj k3 cI a1
      have hvn:=hc.1
      have bw:cs≠ []:=by rintro rfl;simp only[aqh]at k3;omega
      refine⟨cs,ws,n,hr,bw,w1,hn,vW,by omega,qf,hk _ _ .any (NH (apN.1 hr).1 ⟨k1,⟨q,k2,?_⟩,fun i t v b1 b2=>?_⟩)⟩
      ·rw[show(eB cs (j*sz+sub) ws).length=cs.length from ?_,k3,c1]
       have: ∀(ws cs:List V) (o:Nat),(eB cs o ws).length=cs.length:=by
        intro ws
        induction ws with
        |nil=>intro cs o;rfl
        |cons w ws ih=>intro cs o;simp only[eB];rw[ih];simp
       exact this _ _ _
      ·rw[nZ]at b2
       split at b2
       ·rename_i hi
        have aO:=(apN.1 b2).1
        have agN:i%e.length=sub+(i-(j*sz+sub)):=by
         rw[c1,show i=sz*j+(sub+(i-(j*sz+sub))) by rw[aru sz j];omega,ar5,aq1 (by omega)]
         rw[aru sz j]
         omega
        rw[agN]at b1
        obtain⟨a,ha⟩:=aC (l:=vs) (i:=i-(j*sz+sub)) (by rw[w2.1];exact aO)
        refine kf hO.zero hO.facts 6 a t v (a2 _ a t ha ?_) (w2.2 _ a v ha b2)
        rw[aqc,if_pos (by omega),aqb]
        exact b1
       ·exact k4 i t v b1 b2
     |_=>exact dN.elim
    ·cases h
   ·cases h
  ·cases h
 ·cases h
end
end
end Go.Ck
set_option linter.unusedSectionVars false
namespace Go.Ck
noncomputable section
open Go.VS
variable [eb]
section
variable {P : Program} {θ : List Int} {F : List Fact} {E : SL} {R : List AR} {id : Nat} {s : List V} {rows : List Row} {i j : IV} {m n : Int}
def nL(x:Option T)(d:IV):Option IV:=
 match x with
 |none=>some d
 |some (.int _ i)=>some i
 |some _=>none
theorem jO(h0:θ[0]?=some 0)(hF:aM θ F){x:Option Operand}{d r:IV}{dv:Nat}(hx: ∀y,x=some y→Has θ (oT E y) (ax s y))(h:nL (x.map (oT E)) d=some r)(hd:d.Has θ (dv:Int))(hg:nK F r 0=true){k:Nat→Prop}
  (hk: ∀n:Nat,r.Has θ (n:Int)→k n):eI (x.map (ax s)) dv k:=by
 cases x with
 |none=>obtain rfl:=apO h;exact hk dv hd
 |some y=>
  have hy:=hx y rfl
  simp only[aqU]at h⊢
  generalize oT E y=Y at h hy
  generalize ax s y=vy at hy
  unfold nL at h
  split at h
  ·rename_i e;cases e
  ·rename_i e
   obtain rfl:=apO e
   obtain rfl:=apO h
   cases hy with
   |int p=>
    have:=Ar h0 hF hg p
    exact⟨this,hk _ (by rwa[arL this])⟩
  ·cases h
def isZ(i:IV):Bool:=
 match i with
 |.aH 0 c=>decide (c=0)
 |_=>false
def U4(h b:IV):Option IV:=
 match h,b with
 |.aH g c,.aH g' d=>if g=0∨g'=0∨g=g' then none else some (.lQ g g' (c-d))
 |_,_=>none
theorem Xx{h b i:IV}{x y:Int}(e:U4 h b=some i)(hx:h.Has θ x)(hy:b.Has θ y):i.Has θ (x-y):=by
 unfold U4 at e
 split at e
 ·split at e
  ·cases e
  ·obtain rfl:=apO e
   obtain⟨u,h1,rfl⟩:=hx
   obtain⟨v,h2,rfl⟩:=hy
   exact⟨u,v,h1,h2,by omega⟩
 ·cases e
def PQ(F:List Fact)(h b l:IV):IV:=
 match U4 h b with
 |some i=>i
 |none=>match PN F h b with
 |.aR lo hi=>.aR (if lo≤0 then 0 else lo) (match l.hi F with
  |some m=>if eM m hi then m else hi
  |none=>hi)
 |.top=>(match l.hi F with
  |some m=>.aR 0 m
  |none=>.top)
 |i=>i
theorem FY(h0:θ[0]?=some 0)(hF:aM θ F){h b l:IV}{x y z:Int}(hx:h.Has θ x)(hy:b.Has θ y)(hz:l.Has θ z)(hle:y≤x)(lN:0≤y)(hxz:x≤z):(PQ F h b l).Has θ (x-y):=by
 have hs:=ND h0 hF hx hy
 unfold PQ
 split
 ·rename_i e;exact Xx e hx hy
 split
 ·rename_i lo hi e
  rw[e]at hs
  refine⟨?_,?_⟩
  ·split
   ·omega
   ·exact hs.1
  ·split
   ·rename_i m em
    have:=IV.eh h0 hF em hz
    split
    ·omega
    ·exact hs.2
   ·exact hs.2
 ·split
  ·rename_i m em
   have:=IV.eh h0 hF em hz
   exact⟨by omega,by omega⟩
  ·trivial
 ·exact hs
def Kz(P:Program)(F:List Fact)(t:TypeId)(x:T)(lo hi mx:Option T):Option T:=
 match mx with
 |some _=>none
 |none=>match x with
  |.str l=>(match nL hi l,nL lo (.aH 0 0)with
   |some h,some b=>if fP P t∧nK F h 0∧nK F b 0∧b.le F h∧h.le F l then some (.str (PQ F h b l))else none
   |_,_=>none)
  |.sl l e=>(match nL hi l,nL lo (.aH 0 0),(bt P t).bind (dW P)with
   |some h,some b,some sz=>if e.length=sz∧nK F h 0∧nK F b 0∧b.le F h∧h.le F l then some (.sl (PQ F h b l) e)else none
   |_,_,_=>none)
  |.aj=>(match nL hi (.aH 0 0),nL lo (.aH 0 0)with
   |some h,some b=>if((bt P t).bind (dW P)).isSome∧nK F h 0∧nK F b 0∧b.le F h∧h.le F (.aH 0 0)then some .aj else none
   |_,_=>none)
  |.av id l sz=>(match nL hi l,nL lo (.aH 0 0)with
   |some h,some b=>if(bt P t).bind (dW P)=some sz∧isZ b∧nK F h 0∧h.le F l then some (.av id h sz)else none
   |_,_=>none)
  |_=>none
theorem vI{t:TypeId}{sz:Nat}(h:(bt P t).bind (dW P)=some sz): ∃e,bt P t=some e∧dW P e=some sz:=by
 cases hu:bt P t with
 |none=>rw[hu]at h;cases h
 |some e=>rw[hu]at h;exact⟨e,rfl,h⟩
theorem R1{t:TypeId}{x:Operand}{lo hi mx:Option Operand}{r:T}(h:Kz P F t (oT E x) (lo.map (oT E)) (hi.map (oT E)) (mx.map (oT E))=some r):dx P F E R id (.slice t x lo hi mx) r []:=dw fun θ s rows k hO hk=>by
 have h1:=bJ hO x
 have z0:(IV.aH 0 0).Has θ ((0:Nat):Int):=⟨0,hO.zero,by simp⟩
 simp only[bF]
 generalize oT E x=X at h h1
 generalize ax s x=vx at h1
 have cast: ∀{a b:Nat},b≤a→((a-b:Nat):Int)=(a:Int)-b:=fun h=>by omega
 unfold Kz at h
 split at h
 ·cases h
 ·rename_i Zh
  have hm:mx.map (ax s)=none:=by cases mx with|none=>rfl|some y=>simp at Zh
  refine⟨hm,?_⟩
  split at h
  ·split at h
   ·rename_i hh bb e1 e2
    obtain⟨⟨c1,c2,c3,c4,c5⟩,rfl⟩:=aG h
    cases h1 with
    |@str _ l p=>
     refine⟨c1,jO hO.zero hO.facts (fun y _=>bJ hO y) e1 p c2 fun a ha=>jO hO.zero hO.facts (fun y _=>bJ hO y) e2 z0 c3 fun b hb=>?_⟩
     have g1:=IV.fL hO.zero hO.facts c4 hb ha
     have g2:=IV.fL hO.zero hO.facts c5 ha p
     refine⟨by omega,by omega,hk _ (.str ?_)⟩
     have:=FY hO.zero hO.facts ha hb p g1 (by omega) g2
     rw[←cast (by omega)]at this
     rwa[apT,apU,arM (by omega)]
   ·cases h
  ·split at h
   ·rename_i hh bb sz e1 e2 e3
    obtain⟨e,u1,u2⟩:=vI e3
    obtain⟨⟨c1,c2,c3,c4,c5⟩,rfl⟩:=aG h
    cases h1 with
    |kW p q=>
     refine⟨⟨e,u1,by rw[u2];rfl⟩,jO hO.zero hO.facts (fun y _=>bJ hO y) e1 (dv:=0) p c2 fun a ha=>jO hO.zero hO.facts (fun y _=>bJ hO y) e2 z0 c3 fun b hb=>?_⟩
     have g1:=IV.fL hO.zero hO.facts c4 hb ha
     have g2:=IV.fL hO.zero hO.facts c5 ha p
     refine⟨by omega,by omega,hk _ (.kW ?_ q)⟩
     have:=FY hO.zero hO.facts ha hb p g1 (by omega) g2
     rwa[show((a:Int)-b)=0 by omega]at this
    |@sl _ es m cs p q1 q2 q3=>
     refine⟨e,sz,u1,u2,jO hO.zero hO.facts (fun y _=>bJ hO y) e1 p c2 fun a ha=>jO hO.zero hO.facts (fun y _=>bJ hO y) e2 z0 c3 fun b hb=>?_⟩
     have g1:=IV.fL hO.zero hO.facts c4 hb ha
     have g2:=IV.fL hO.zero hO.facts c5 ha p
     refine⟨by omega,by omega,hk _ ?_⟩
     have:=FY hO.zero hO.facts ha hb p g1 (by omega) g2
     rw[←cast (by omega)]at this
     have hle:b*sz+(a-b)*sz≤m*sz:=by
      rw[←arb]
      exact aqI _ (by omega)
     rw[c1]at q2
     refine .sl this q1 (by rw[c1];simp;omega) fun i t v y1 y2=>?_
     rw[aqc]at y2
     split at y2
     ·rw[aqb]at y2
      refine q3 _ t v ?_ y2
      rw[c1]at y1⊢
      rwa[aru,ar5]
     ·cases y2
   ·cases h
  ·split at h
   ·rename_i hh bb e1 e2
    obtain⟨⟨c1,c2,c3,c4,c5⟩,rfl⟩:=aG h
    cases h1
    obtain⟨sz,cm⟩:=aqQ.1 c1
    obtain⟨e,u1,u2⟩:=vI cm
    refine⟨⟨e,u1,by rw[u2];rfl⟩,jO hO.zero hO.facts (fun y _=>bJ hO y) e1 z0 c2 fun a ha=>jO hO.zero hO.facts (fun y _=>bJ hO y) e2 z0 c3 fun b hb=>?_⟩
    have g1:=IV.fL hO.zero hO.facts c4 hb ha
    have g2:=IV.fL hO.zero hO.facts c5 ha z0
    exact⟨by omega,by omega,hk _ .aj⟩
   ·cases h
  ·split at h
   ·rename_i jV l sz hh bb e1 e2
    obtain⟨⟨c1,c3,c2,c4⟩,rfl⟩:=aG h
    obtain⟨e,u1,u2⟩:=vI c1
    cases h1 with
    |av p=>
     have hb0: ∀{b:Nat},bb.Has θ (b:Int)→b=0:=fun{b} hb=>by
      unfold isZ at c3
      split at c3
      ·simp only[decide_eq_true_eq]at c3
       subst c3
       obtain⟨x,hx,e⟩:=hb
       rw[hO.zero]at hx
       obtain rfl:=apO hx
       omega
      ·cases c3
     have hbg:nK F bb 0=true:=by
      unfold isZ at c3
      split at c3
      ·simp only[decide_eq_true_eq]at c3
       subst c3
       simp[nK,IV.lo,fq,nr,hP]
      ·cases c3
     refine⟨e,u1,u2,jO hO.zero hO.facts (fun y _=>bJ hO y) e1 p c2 fun a ha=>jO hO.zero hO.facts (fun y _=>bJ hO y) e2 z0 hbg fun b hb=>?_⟩
     obtain rfl:=hb0 hb
     have g2:=IV.fL hO.zero hO.facts c4 ha p
     refine⟨by omega,by omega,hk _ ?_⟩
     simp only[Nat.zero_mul,Nat.add_zero,Nat.sub_zero]
     exact .av ha
   ·cases h
  ·cases h
def U5(F:List Fact):List T→List T→List T
 |a::l,b::m=>V6 F a b::U5 F l m
 |_,_=> []
def pieces(l:List T)(sz:Nat):Nat→List (List T)
 |0=> []
 |c+1=>l.take sz::pieces (l.drop sz) sz c
def SY(F:List Fact):List (List T)→List T
 |[]=> []
 |[a]=>a
 |a::l=>U5 F a (SY F l)
def pe(θ:List Int)(e:List T)(cs:List V):Prop:= ∀(i:Nat) t v,e[i%e.length]?=some t→cs[i]?=some v→Has θ t v
theorem Hp{e:List T}{sz:Nat}(hs:e.length=sz)(hp:0<sz)(h0:θ[0]?=some 0)(hF:aM θ F): ∀(c:Nat) (l:List T) (vs:List V),l.length=c*sz→((pieces l sz c).all fun p=>dm (fH F 6) p e)=true→bg θ l vs→pe θ e vs
 |0,l,vs,hl,_,h=>fun i t v _ b=>by
  have:=h.1
  have:=(apN.1 b).1
  omega
 |c+1,l,vs,hl,hall,h=>fun i t v a b=>by
  simp only[pieces,List.all_cons,apP]at hall
  obtain⟨x1,x2⟩:=iJ hall.1
  rw[arb,Nat.one_mul]at hl
  by_cases hi:i<sz
  ·rw[hs,aq1 hi]at a
   obtain⟨u,hu⟩:=aC (l:=l) (i:=i) (by omega)
   exact kf h0 hF 6 u t v (x2 i u t (by rw[aqc,if_pos hi];exact hu) a) (h.2 i u v hu b)
  ·refine Hp hs hp h0 hF c (l.drop sz) (vs.drop sz) (by simp;omega) hall.2 ?_ (i-sz) t v ?_ ?_
   ·have:=lS h sz (l.length)
    rwa[apR (by simp),apR (by rw[apU,h.1];omega)]at this
   ·rw[hs]at a⊢
    rwa[arQ (by omega)]at a
   ·rw[aqb,show sz+(i-sz)=i by omega]
    exact b
def agO(F:List Fact)(t:T):T:=
 match t with
 |.bool _ _ _=>.bool none [] []
 |.int .u8 i=>if fq (some 0) (i.lo F)&&fq (i.hi F) (some 255)then .int .u8 (.aR 0 255)else t
 |t=>t
def iW(F:List Fact)(R:List AR)(sz:Nat)(x:T):Option (IV×List T):=
 match x with
 |.aj=>some (.aH 0 0,[])
 |.sl l e=>if e.length=sz then some (l,e)else none
 |.str l=>if sz=1 then some (l,[.int .u8 (.aR 0 255)])else none
 |.av id l cG=>if cG=sz then(match R[id]? with
  |some (.arr n e)=>if e.length=sz∧l.le F n then some (l,e)else none
  |some (.cells cl)=>(let c:=cl.length/sz;let ps:=pieces cl sz c;let e:=(SY F ps).map (agO F)
    if 0<sz∧cl.length=c*sz∧l.le F (.aH 0 c)∧e.length=sz∧(ps.all fun p=>dm (fH F 6) p e)then some (l,e)else none)
  |_=>none)else none
 |_=>none
theorem Lm{e:List T}{cs:List V}(h:pe θ e cs)(k:Nat):pe θ e (cs.take k):=fun i t v a b=>by
 rw[aqc]at b
 split at b
 ·exact h i t v a b
 ·cases b
theorem xL(hO:Cx θ F E R s rows){sz:Nat}{x:T}{vx:V}{l:IV}{e:List T}(h:iW F R sz x=some (l,e))(hx:Has θ x vx){k:Nat→List V→Prop}(hk: ∀(m:Nat) cs,l.Has θ (m:Int)→cs.length=m*sz→pe θ e cs→k m cs):
  gT sz vx rows k:=by
 unfold iW at h
 split at h
 ·simp only[aqy,apX]at h
  obtain⟨rfl,rfl⟩:=h
  cases hx
  exact hk 0 [] ⟨0,hO.zero,by simp⟩ (by simp) fun i t v a b=>by simp at b
 ·obtain⟨hs,h⟩:=aG h
  simp only[apX]at h
  obtain⟨rfl,rfl⟩:=h
  cases hx with
  |kW p _=>exact hk 0 [] p (by simp) fun i t v a b=>by simp at b
  |sl p q r t=>rw[hs]at r;exact⟨r,hk _ _ p r t⟩
 ·obtain⟨hs,h⟩:=aG h
  simp only[apX]at h
  obtain⟨rfl,rfl⟩:=h
  cases hx with
  |@str _ l p=>
   refine⟨hs,hk _ _ p (by simp[hs]) fun i t v a b=>?_⟩
   simp only[ara,Nat.mod_one,aqY]at a
   obtain rfl:=apO a
   rw[apZ]at b
   cases hl:l[i]? with
   |none=>rw[hl]at b;cases b
   |some y=>rw[hl]at b;obtain rfl:=apO b;exact .int (Er y)
 ·split at h
  ·rename_i jV l' cG hs
   subst hs
   cases hx with
   |@av _ _ n _ p=>
   split at h
   ·rename_i n' e' hr
    obtain⟨hc,h⟩:=aG h
    simp only[apX]at h
    obtain⟨rfl,rfl⟩:=h
    obtain⟨r,r1,r2⟩:=hO.row hr
    cases r with
    |live cs=>
     obtain⟨k1,⟨q,k2,k3⟩,k4⟩:=r2
     have g:=IV.fL hO.zero hO.facts hc.2 p k2
     rw[hc.1]at k3
     have hle:n*cG≤q*cG:=aqI _ (by omega)
     refine⟨rfl,cs,r1,by omega,hk _ _ p (by simp[b7];omega) ?_⟩
     simpa[b7]using Lm k4 _
    |_=>exact r2.elim
   ·rename_i cl hr
    obtain⟨hc,h⟩:=aG h
    simp only[apX]at h
    obtain⟨rfl,rfl⟩:=h
    obtain⟨c0,c1,c2,c3,c4⟩:=hc
    obtain⟨r,r1,r2⟩:=hO.row hr
    cases r with
    |live cs=>
     have hl:cl.length=cs.length:=r2.1
     have g:=IV.fL hO.zero hO.facts c2 p (n:=((cl.length/cG:Nat):Int)) ⟨0,hO.zero,by simp⟩
     have hle:n*cG≤cl.length/cG*cG:=aqI _ (by omega)
     refine⟨rfl,cs,r1,by omega,hk _ _ p (by simp[b7];omega) ?_⟩
     have:=Hp c3 c0 hO.zero hO.facts _ cl cs c1 c4 r2
     simpa[b7]using Lm this _
    |_=>exact r2.elim
   ·cases h
  ·cases h
 ·cases h
def EV:List T:=[.int .u8 (.aR 0 255)]
def U6(e:List T):Bool:=
 match e with
 |[]=>true
 |[.int k _]=>decide (k=.u8)
 |_=>false
def Ph(P:Program)(F:List Fact)(R:List AR)(id:Nat)(sr d:TypeId)(x:T):zR:=
 match x with
 |.int _ i=>(match uint P d with
  |some kd=>if(P.underlying sr).isSome then some (.int kd (i.wrapped F kd),[])else none
  |none=>none)
 |.str l=>if(P.underlying sr).isSome then(if fP P d then some (.str l,[])else
   if(bt P d).bind (uint P)=some .u8 then some (.av id l 1,[(id,.arr l EV)])else none)else none
 |x=>if fP P d∧(bt P sr).bind (uint P)=some .u8 then(match iW F R 1 x with
   |some (l,e)=>if U6 e then some (.str l,[])else none
   |none=>none)else none
theorem Hq{t:TypeId}(h:(bt P t).bind (uint P)=some .u8): ∃e,bt P t=some e∧uint P e=some .u8:=by
 cases hu:bt P t with
 |none=>rw[hu]at h;cases h
 |some e=>rw[hu]at h;exact⟨e,rfl,h⟩
theorem Uy{sr d:TypeId}{x:Operand}{t:T}{u:List (Nat×AR)}(h:Ph P F R id sr d (oT E x)=some (t,u)):dx P F E R id (.convert sr d x) t u:=fun θ s rows k hO hf hk=>by
 have h1:=bJ hO x
 simp only[bF]
 generalize oT E x=X at h h1
 generalize ax s x=vx at h1
 have acV:(∀kd n,vx≠.int kd n)→(∀l,vx≠.str l)→(if fP P d∧(bt P sr).bind (uint P)=some .u8 then(match iW F R 1 X with
   |some (l,e)=>if U6 e then some (T.str l,[])else none
   |none=>none)else none)=some (t,u)→uZ P sr d vx id rows k:=by
  intro n1 n2 h
  split at h
  ·rename_i hc
   split at h
   ·rename_i l e hs
    obtain⟨hu,h⟩:=aG h
    simp only[apX]at h
    obtain⟨rfl,rfl⟩:=h
    obtain⟨e',u1,u2⟩:=Hq hc.2
    have:gT 1 vx rows fun _ cs=>(∀c∈cs,c.isByte=true)∧k (.str (cs.map toByte)) rows:=xL hO hs h1 fun m cs q1 q2 q3=>by
     refine⟨fun c hc=>?_,hk _ _ (.str (by simpa[q2]using q1)) ld⟩
     obtain⟨i,hi⟩:=aqm.1 hc
     unfold U6 at hu
     split at hu
     ·have:m=0:=by
       rcases Nat.eq_zero_or_pos m with h|h
       ·exact h
       ·have aO:=(apN.1 hi).1
        exfalso
        unfold iW at hs
        split at hs
        ·simp only[aqy,apX]at hs
         obtain⟨rfl,-⟩:=hs
         obtain⟨x,hx,e⟩:=q1
         rw[hO.zero]at hx
         obtain rfl:=apO hx
         omega
        ·obtain⟨hl,hs⟩:=aG hs;simp only[apX]at hs;rw[hs.2]at hl;simp at hl
        ·obtain⟨hl,hs⟩:=aG hs;simp only[apX]at hs;have:=hs.2;simp at this
        ·split at hs
         ·split at hs
          ·obtain⟨hl,hs⟩:=aG hs;simp only[apX]at hs;rw[hs.2]at hl;simp at hl
          ·obtain⟨hl,hs⟩:=aG hs;simp only[apX]at hs;rw[hs.2]at hl;simp at hl
          ·cases hs
         ·cases hs
        ·cases hs
      subst this
      have:=(apN.1 hi).1
      omega
     ·simp only[decide_eq_true_eq]at hu
      subst hu
      have:=q3 i _ c (by rw[show i%List.length [T.int IntKind.u8 _]=0 by simp;omega];rfl) hi
      cases this
      rfl
     ·cases hu
    cases vx<;>first|exact absurd rfl (n1 _ _)|exact absurd rfl (n2 _)|exact⟨hc.1,⟨e',u1,u2⟩,this⟩
   ·cases h
  ·cases h
 unfold Ph at h
 split at h
 ·split at h
  ·rename_i kd hkd
   obtain⟨hc,h⟩:=aG h
   simp only[apX]at h
   obtain⟨rfl,rfl⟩:=h
   cases h1 with
   |int p=>exact⟨kd,hkd,hc,hk _ _ (.int (mK hO.zero hO.facts kd p)) ld⟩
  ·cases h
 ·split at h
  ·rename_i hc
   cases h1 with
   |@str _ l p=>
   refine⟨hc,?_⟩
   split at h
   ·rename_i hd
    simp only[aqy,apX]at h
    obtain⟨rfl,rfl⟩:=h
    rw[if_pos hd]
    exact hk _ _ (.str p) ld
   ·rename_i hd
    rw[if_neg hd]
    obtain⟨hu,h⟩:=aG h
    simp only[apX]at h
    obtain⟨rfl,rfl⟩:=h
    obtain⟨e',u1,u2⟩:=Hq hu
    refine⟨e',u1,u2,hf,hk _ _ (.av p) (oG hf ⟨by simp[EV],⟨l.length,p,by simp[EV]⟩,fun i t v a b=>?_⟩)⟩
    simp only[EV,ara]at a
    rw[show i%1=0 by omega]at a
    obtain rfl:=apO a
    rw[apZ]at b
    cases hl:l[i]? with
    |none=>rw[hl]at b;cases b
    |some y=>rw[hl]at b;obtain rfl:=apO b;exact .int (Er y)
  ·cases h
 ·rename_i n1 n2
  refine acV (fun kd n e=>?_) (fun l e=>?_) h
  ·subst e
   cases h1<;>first|(exact absurd rfl (n1 _ _))|(split at h<;>first|(simp[iW]at h;done)|cases h)
  ·subst e
   cases h1<;>first|(exact absurd rfl (n2 _))|(split at h<;>first|(simp[iW]at h;done)|cases h)
def SZ(e:List T):Bool:=e.all T.one
def V7(F:List Fact):T→T
 |.int k i=>.int k (kI (i.lo F) (i.hi F))
 |.str i=>.str (kI (i.lo F) (i.hi F))
 |t=>t
def PR(F:List Fact)(a b:List T):Option (List T):=
 if dm (fH F 6) b a then some a else if dm (fH F 6) a b then some b else
  (let j:=U5 F (a.map (V7 F)) (b.map (V7 F));if dm (fH F 6) a j∧dm (fH F 6) b j then some j else none)
theorem Xy(h0:θ[0]?=some 0)(hF:aM θ F){a b c:List T}(h:PR F a b=some c):c.length=a.length∧c.length=b.length∧(∀cs,pe θ a cs→pe θ c cs)∧(∀cs,pe θ b cs→pe θ c cs):=by
 have key: ∀{a c:List T},dm (fH F 6) a c=true→c.length=a.length∧ ∀cs,pe θ a cs→pe θ c cs:=fun{a c} h=>by
  obtain⟨h1,h2⟩:=iJ h
  refine⟨h1.symm,fun cs hc i t v p q=>?_⟩
  rw[←h1]at p
  obtain⟨u,hu⟩:=aC (l:=a) (i:=i%a.length) (by rw[h1];have:=(apN.1 p).1;rw[h1]at this;exact this)
  exact kf h0 hF 6 u t v (h2 _ u t hu p) (hc i u v hu q)
 unfold PR at h
 split at h
 ·rename_i hb
  obtain rfl:=apO h
  obtain⟨k1,k2⟩:=key hb
  exact⟨rfl,k1,fun _ h=>h,k2⟩
 ·split at h
  ·rename_i ha
   obtain rfl:=apO h
   obtain⟨k1,k2⟩:=key ha
   exact⟨k1,rfl,k2,fun _ h=>h⟩
  ·obtain⟨hc,rfl⟩:=aG h
   obtain⟨k1,k2⟩:=key hc.1
   obtain⟨k3,k4⟩:=key hc.2
   exact⟨k1,k3,k2,k4⟩
theorem Xz{e:List T}{a b:List V}{n:Nat}(ha:a.length=n*e.length)(h1:pe θ e a)(h2:pe θ e b):pe θ e (a++b):=fun i t v p q=>by
 rw[aqq]at q
 split at q
 ·exact h1 i t v p q
 ·rename_i hi
  refine h2 (i-a.length) t v ?_ q
  have:i%e.length=(i-a.length)%e.length:=by
   conv=>lhs;rw[show i=e.length*n+(i-a.length) by rw[aru];omega,ar5]
  rwa[←this]
def PS(b:Option Int)(db:Nat):Bool:=fq b (some 1099511627776)&&fq (b.map ((db:Int)* ·)) (some 140737488355328)
def FH(P:Program)(F:List Fact)(R:List AR)(id:Nat)(t:TypeId)(s x:T):zR:=
 match bt P t with
 |none=>none
 |some e=>(match dW P e,nH P e,ag P e with
  |some sz,some db,some z=>if z.length=sz then(match iW F R sz x with
   |some (m,ex)=>if SZ ex then(match s with
    |.aj=>(let ex':=match ex with|[]=>z.map vT|ex=>ex
      if PS (m.hi F) db∧notNil ex'∧ex'.length=sz then some (.av id m sz,[(id,.arr m ex')])else none)
    |.av fi n cG=>if cG=sz∧PS (jj (n.hi F) (m.hi F)) db then(match iW F R sz (.av fi n cG)with
     |some (n',e0)=>(match(match ex with|[]=>some e0|ex=>PR F e0 ex)with
      |some e'=>if notNil e'∧e0.length=sz∧(notNil ex=false∨ex.length=sz)then some (.av id (pH n' m) sz,[(fi,.dead),(id,.arr (pH n' m) e')])else none
      |none=>none)
     |none=>none)else none
    |_=>none)else none
   |none=>none)else none
  |_,_,_=>none)
theorem NI(h0:θ[0]?=some 0)(hF:aM θ F){db:Nat}{b:Option Int}(h:PS b db=true){m:Nat}(hm: ∀x,b=some x→(m:Int)≤x):m*db≤140737488355328∧m≤1099511627776:=by
 simp only[PS,apP]at h
 obtain⟨x,y,e1,e2,e3⟩:=fG h.1
 have h1:=hm x e1
 rw[e1]at h
 have h2:=h.2
 simp only[aqU,fq,hP]at h2
 simp at e2
 have h3:(db:Int)*m≤db*x:=aqG h1 (aqS _)
 have h4:(db:Int)*m=((m*db:Nat):Int):=by rw[aru];simp
 omega
theorem S0{e:List T}{cs:List V}(h:SZ e=true)(hc:pe θ e cs)(hl:cs≠ []→e≠ []): ∀c∈cs,c.one=true:=by
 intro c hm
 obtain⟨i,hi⟩:=aqm.1 hm
 have bw:=hl (List.ne_nil_of_mem hm)
 obtain⟨t,ht⟩:=aC (l:=e) (i:=i%e.length) (arc _ (aqj.2 bw))
 exact(hc i t c ht hi).one (ap1.1 h t (aqg ht))
theorem S3{sz:Nat}{x:T}{l:IV}{e:List T}(h:iW F R sz x=some (l,e))(h0:θ[0]?=some 0)(hs:0<sz)(he:e=[]){m:Nat}(hm:l.Has θ (m:Int)):m=0:=by
 subst he
 unfold iW at h
 split at h
 ·simp only[aqy,apX]at h
  obtain⟨rfl,-⟩:=h
  obtain⟨x,hx,e⟩:=hm
  rw[h0]at hx
  obtain rfl:=apO hx
  omega
 ·obtain⟨hl,hs⟩:=aG h;simp only[apX]at hs;rw[hs.2]at hl;simp at hl;omega
 ·obtain⟨hl,hs⟩:=aG h;simp only[apX]at hs;have:=hs.2;simp at this
 ·split at h
  ·split at h
   ·obtain⟨hl,hs⟩:=aG h;simp only[apX]at hs;rw[hs.2]at hl;simp at hl;omega
   ·obtain⟨hl,hs⟩:=aG h;simp only[apX]at hs;rw[hs.2]at hl;simp at hl;omega
   ·cases h
  ·cases h
 ·cases h
theorem Pj{t t':TypeId}{c:Call}{a b:Operand}{r:T}{u:List (Nat×AR)}(hc:c.callee=.builtin .append)(ha:c.args.toList=[a,b])(ht:c.argTypes[0]?=some t)(Et:c.argTypes[1]?=some t')(Nv:((bt P t').isSome||fP P t')=true)
  (h:FH P F R id t (oT E a) (oT E b)=some (r,u)):dx P F E R id (.call c) r u:=fun θ s rows k hO hf hk=>by
 have h1:=bJ hO a
 have h2:=bJ hO b
 simp only[bF,hc,ha,aqt,aq2,ic]
 refine⟨t,t',ht,Et,by simpa using Nv,?_⟩
 generalize oT E a=X at h h1
 generalize ax s a=vx at h1
 generalize oT E b=Y at h h2
 generalize ax s b=vy at h2
 unfold FH at h
 split at h
 ·cases h
 ·rename_i e he
  split at h
  ·rename_i sz db z cm yn hz
   split at h
   ·rename_i uU
    split at h
    ·rename_i m ex nE
     split at h
     ·rename_i qf
      refine⟨e,sz,db,z,he,cm,yn,hz,uU,xL hO nE h2 fun mv cs q1 q2 q3=>?_⟩
      have hex:cs≠ []→ex≠ []:=by
       intro gq hex
       rcases Nat.eq_zero_or_pos sz with hz|hz
       ·subst hz;simp at q2;exact gq q2
       ·have:=S3 nE hO.zero hz hex q1
        subst this
        simp at q2
        exact gq q2
      refine⟨S0 qf q3 hex,?_⟩
      split at h
      ·obtain⟨⟨c1,c2,c3⟩,h⟩:=aG h
       simp only[apX]at h
       obtain⟨rfl,rfl⟩:=h
       cases h1
       obtain⟨f1,f2⟩:=NI hO.zero hO.facts c1 fun x hx=>IV.eh hO.zero hO.facts hx q1
       refine⟨f1,f2,hf,hk _ _ (.av q1) (oG hf ⟨ea c2,⟨mv,q1,by rw[c3];exact q2⟩,?_⟩)⟩
       split
       ·intro i t v a b
        have:cs≠ []:=by rintro rfl;simp at b
        exact absurd rfl (hex this)
       ·exact q3
      ·rename_i fi n cG
       split at h
       ·rename_i bX
        obtain⟨rfl,agP⟩:=bX
        split at h
        ·rename_i n' e0 vu
         split at h
         ·rename_i e' hb
          obtain⟨⟨c1,c2,c3⟩,h⟩:=aG h
          simp only[apX]at h
          obtain⟨rfl,rfl⟩:=h
          have hs0:=xL hO vu h1 (k:=fun nv ds=>n'.Has θ (nv:Int)∧ds.length=nv*cG∧pe θ e0 ds) fun nv ds w1 w2 w3=>⟨w1,w2,w3⟩
          cases h1 with
          |@av _ _ nv _ p=>
          obtain⟨-,ds,w1,w2,w3,w4,w5⟩:=hs0
          have YL:n'=n:=by
           unfold iW at vu
           simp only at vu
           rw[if_pos trivial]at vu
           split at vu
           ·obtain⟨-,hs⟩:=aG vu;simp only[apX]at hs;exact hs.1.symm
           ·obtain⟨-,hs⟩:=aG vu;simp only[apX]at hs;exact hs.1.symm
           ·cases vu
          subst YL
          obtain⟨f1,f2⟩:=NI hO.zero hO.facts agP (m:=nv+mv) fun x hx=>by
           obtain⟨y,w,e1,e2,rfl⟩:=dZ hx
           have:=IV.eh hO.zero hO.facts e1 p
           have:=IV.eh hO.zero hO.facts e2 q1
           omega
          have wV:=oJ hO.zero p q1
          have bw:fi≠id:=by
           rintro rfl
           rcases hf with h|h
           ·have:=(apN.1 w1).1;omega
           ·rw[w1]at h;cases h
          have BS:dB (rows.set fi .dead) id:=by
           rcases hf with h|h
           ·exact .inl (by simpa using h)
           ·exact .inr (by rw[ap6 bw];exact h)
          refine⟨rfl,f1,f2,hf,ds,w1,w2,hk _ _ (.av (by simpa using wV)) ⟨fun j hj=>?_,fun j a hj=>?_⟩⟩
          ·have hle:id≤(rows.set fi .dead).length:=by
            rcases BS with h|h
            ·omega
            ·exact aqx (apN.1 h).1
           rw[bH hle,if_neg,ap6]
           ·rintro rfl;exact hj .dead (by simp)
           ·rintro rfl;exact hj (.arr (pH n' m) e') (by simp)
          ·have hle:id≤(rows.set fi .dead).length:=by
            rcases BS with h|h
            ·omega
            ·exact aqx (apN.1 h).1
           rcases ap8.1 hj with hj|hj
           ·obtain⟨rfl,rfl⟩:=aq7 hj
            exact⟨.dead,by rw[bH hle,if_neg bw];simp[(apN.1 w1).1],fun h=>by cases h⟩
           ·obtain⟨rfl,rfl⟩:=aq7 (aqn.1 hj)
            refine⟨_,by rw[bH hle,if_pos rfl],?_⟩
            have tX:e'.length=cG∧(∀cs,pe θ e0 cs→pe θ e' cs)∧(pe θ e' cs):=by
             split at hb
             ·obtain rfl:=apO hb
              refine⟨c2,fun _ h=>h,fun i t v a b=>?_⟩
              have:cs≠ []:=by rintro rfl;simp at b
              exact absurd rfl (hex this)
             ·obtain⟨y1,y2,y3,y4⟩:=Xy hO.zero hO.facts hb
              exact⟨by rw[y1,c2],y3,y4 _ q3⟩
            refine⟨ea c1,⟨nv+mv,by simpa using wV,?_⟩,Xz (n:=nv) (by rw[w4,tX.1]) (tX.2.1 _ w5) tX.2.2⟩
            rw[aqa,w4,q2,tX.1,arb]
         ·cases h
        ·cases h
       ·cases h
      ·cases h
     ·cases h
    ·cases h
   ·cases h
  ·cases h
def Uw(P:Program)(t:TypeId)(x:T):Option T:=
 match x with
 |.str l=>if fP P t then some (.int .i64 l)else none
 |.aj=>if(bt P t).isSome then some (.int .i64 (.aH 0 0))else none
 |.sl l _=>if(bt P t).isSome then some (.int .i64 l)else none
 |.av _ l _=>if(bt P t).isSome then some (.int .i64 l)else none
 |_=>none
theorem Xb{t:TypeId}{c:Call}{a:Operand}{r:T}(hc:c.callee=.builtin .len)(ha:c.args.toList=[a])(ht:c.argTypes[0]?=some t)(h:Uw P t (oT E a)=some r):dx P F E R id (.call c) r []:=dw fun θ s rows k hO hk=>by
 have h1:=bJ hO a
 simp only[bF,hc,ha,aqt,aq2,ic]
 refine⟨t,ht,?_⟩
 generalize oT E a=X at h h1
 generalize ax s a=vx at h1
 unfold Uw at h
 split at h
 ·obtain⟨hc,rfl⟩:=aG h;cases h1 with|str p=>exact⟨hc,hk _ (.int p)⟩
 ·obtain⟨hc,rfl⟩:=aG h;cases h1;exact⟨hc,hk _ (.int ⟨0,hO.zero,by omega⟩)⟩
 ·obtain⟨hc,rfl⟩:=aG h
  cases h1 with
  |kW p _=>exact⟨hc,hk _ (.int p)⟩
  |sl p _ _ _=>exact⟨hc,hk _ (.int p)⟩
 ·obtain⟨hc,rfl⟩:=aG h;cases h1 with|av p=>exact⟨hc,hk _ (.int p)⟩
 ·cases h
def Be(F:List Fact)(mx:Bool)(x y:T):Option T:=
 match x,y with
 |.int k i,.int k' j=>if k=k' then some (.int k (if mx then
   kI (match i.lo F,j.lo F with|some a,some b=>some (if a≤b then b else a)|some a,none=>some a|none,b=>b) (match i.hi F,j.hi F with|some a,some b=>some (if a≤b then b else a)|_,_=>none)else
   kI (match i.lo F,j.lo F with|some a,some b=>some (if a≤b then a else b)|_,_=>none) (match i.hi F,j.hi F with|some a,some b=>some (if a≤b then a else b)|some a,none=>some a|none,b=>b)))else none
 |_,_=>none
theorem Eu{c:Call}{a b:Operand}{r:T}{mx:Bool}(hc:c.callee=.builtin (if mx then .max else .min))(ha:c.args.toList=[a,b])(h:Be F mx (oT E a) (oT E b)=some r):dx P F E R id (.call c) r []:=dw fun θ s rows k hO hk=>by
 have h1:=bJ hO a
 have h2:=bJ hO b
 simp only[bF,hc,ha,aqt,aq2]
 generalize oT E a=X at h h1
 generalize ax s a=vx at h1
 generalize oT E b=Y at h h2
 generalize ax s b=vy at h2
 unfold Be at h
 split at h
 ·obtain⟨rfl,rfl⟩:=aG h
  cases h1 with
  |@int _ _ x p=>
  cases h2 with
  |@int _ _ y q=>
  have Gt:=fun b h=>IV.ir hO.zero hO.facts (b:=b) h p
  have Gu:=fun b h=>IV.ir hO.zero hO.facts (b:=b) h q
  have jf:=fun b h=>IV.eh hO.zero hO.facts (b:=b) h p
  have pM:=fun b h=>IV.eh hO.zero hO.facts (b:=b) h q
  generalize IV.lo F _=A1 at hk Gt
  generalize IV.lo F _=A2 at hk Gu
  generalize IV.hi F _=B1 at hk jf
  generalize IV.hi F _=B2 at hk pM
  cases mx
  ·simp only[aqo,if_false,ic,js]at hk⊢
   refine⟨trivial,hk _ (.int (mJ (fun b hb=>?_) fun b hb=>?_))⟩
   ·split at hb
    ·have:=Gt _ rfl;have:=Gu _ rfl;obtain rfl:=apO hb;split<;>split<;>omega
    ·cases hb
   ·split at hb
    ·have:=jf _ rfl;have:=pM _ rfl;obtain rfl:=apO hb;split<;>split<;>omega
    ·have:=jf _ rfl;obtain rfl:=apO hb;split<;>omega
    ·have:=pM _ hb;split<;>omega
  ·simp only[if_true,ic,js]at hk⊢
   refine⟨trivial,hk _ (.int (mJ (fun b hb=>?_) fun b hb=>?_))⟩
   ·split at hb
    ·have:=Gt _ rfl;have:=Gu _ rfl;obtain rfl:=apO hb;split<;>split<;>omega
    ·have:=Gt _ rfl;obtain rfl:=apO hb;split<;>omega
    ·have:=Gu _ hb;split<;>omega
   ·split at hb
    ·have:=jf _ rfl;have:=pM _ rfl;obtain rfl:=apO hb;split<;>split<;>omega
    ·cases hb
 ·cases h
end
end
end Go.Ck
