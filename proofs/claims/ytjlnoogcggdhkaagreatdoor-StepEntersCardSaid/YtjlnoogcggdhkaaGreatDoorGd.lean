/-
 VALUE SEMANTICS, 21: from a contract to a law's walk.
 Conditions: none.
-/
import Derived.Test.YtjlnoogcggdhkaaGreatDoorGc
import Derived.Below
import Derived.ProofKit
import Derived.OpenShut
import Derived.SizedLaws
set_option linter.all false
namespace Go.VS
theorem ao.below{P:Program}{f:FuncId}{args:List V}(h:ao P f args (.bool true)){w:World}{vs:Array Value}(ha:bh w (fun b=>b<w.heap.size) [] vs.toList args)(go:iL P ⟨w,fun b=>b<w.heap.size,[]⟩):
  Calls P f vs w fun e w'=>e=.returned (.bool true)∧Go.RowKit.Below w.heap.size w w':=by
 refine(h.2.2 w (fun b=>b<w.heap.size) [] vs (Good.start fun _ h=>h) go ha).mono ?_
 rintro e w' ⟨v,r,ad,aY,ρ',rfl,rfl,g,hr⟩
 refine⟨by rw[oa hr],g.os,g.tape,g.output,g.size,fun k hk=>g.ext.heap k hk⟩
end Go.VS
set_option linter.all false
namespace Go.VS
def vM(P:Program):List Field→Nat→Option Nat
 |[],o=>some o
 |g::gs,o=>if g.offset=o then vM P gs (o+P.cellsOf g.type)else none
def plain(P:Program):Nat→TypeId→Bool
 |0,_=>false
 |f+1,t=>match P.underlying t with
  |some .bool=>true
  |some (.int _)=>true
  |some .string=>true
  |some (.slice e)=>decide (0<P.cellsOf e)&&decide (0<P.bytesOf e)&&plain P f e
  |some (.struct fs)=>decide (vM P fs.toList 0=some (P.cellsOf t))&&fs.toList.all fun g=>plain P f g.type
  |some (.array n e)=>decide (P.cellsOf t=n*P.cellsOf e)&&plain P f e
  |_=>false
def Fits(P:Program):Nat→TypeId→List V→Prop
 |0,_,_=>False
 |f+1,t,xs=>match P.underlying t with
  |some .bool=> ∃b,xs=[.bool b]
  |some (.int k)=> ∃n,(k.min≤n∧n≤k.max)∧xs=[.int k n]
  |some .string=> ∃s:List UInt8,s.length≤reachBytes∧xs=[.str s]
  |some (.slice e)=> ∃je:List (List V),je.length≤reachBytes∧je.length*P.bytesOf e≤reachBytes∧(∀ys∈je,Fits P f e ys)∧xs=[.sl je.length je.flatten]
  |some (.struct fs)=> ∃je:List (List V),je.length=fs.size∧(∀(i:Nat) ys g,je[i]?=some ys→fs[i]?=some g→Fits P f g.type ys)∧xs=je.flatten
  |some (.array n e)=> ∃je:List (List V),je.length=n∧(∀ys∈je,Fits P f e ys)∧xs=je.flatten
  |_=>False
section
variable {w : World} {ro : Nat → Prop} {ρ : bP}
theorem se{u:Value}{x:V}(h:Rd w ro ρ u x):bh w ro ρ [u] [x]:=
 ⟨rfl,fun i a b ha hb=>by
  cases i with
  |zero=>simp at ha hb;subst ha;subst hb;exact h
  |succ i=>simp at ha⟩
theorem mZ: ∀{MB:List (List Value)} {je:List (List V)},MB.length=je.length→(∀(i:Nat) us ys,MB[i]?=some us→je[i]?=some ys→bh w ro ρ us ys)→bh w ro ρ MB.flatten je.flatten
 |[],[],_,_=>⟨rfl,fun i u x h=>by simp at h⟩
 |[],_::_,h,_=>by simp at h
 |_::_,[],h,_=>by simp at h
 |us::MB,ys::je,h,hr=>by
  rw[aqN,aqN]
  exact(hr 0 us ys rfl rfl).append (mZ (by simpa using h) fun i a b ha hb=>hr (i+1) a b (by simpa using ha) (by simpa using hb))
theorem qm{α β:Type}{R:α→β→Prop}: ∀{l:List α},(∀x∈l,∃y,R x y)→ ∃m:List β,m.length=l.length∧ ∀(i:Nat) x y,l[i]?=some x→m[i]?=some y→R x y
 |[],_=>⟨[],rfl,fun i x y h=>by simp at h⟩
 |a::l,h=>by
  obtain⟨b,hb⟩:=h a (by simp)
  obtain⟨m,h1,h2⟩:=qm (l:=l) fun x hx=>h x (by simp[hx])
  refine⟨b::m,by simp[h1],fun i x y hx hy=>?_⟩
  cases i with
  |zero=>simp at hx hy;subst hx;subst hy;exact hb
  |succ i=>exact h2 i x y (by simpa using hx) (by simpa using hy)
theorem chunks_flatten{α:Type}{l:List α}(c:Nat): ∀(n:Nat),l.length=n*c→((List.range n).map fun i=>(l.drop (i*c)).take c).flatten=l:=by
 intro n
 induction n generalizing l with
 |zero=>intro h;simp at h;subst h;rfl
 |succ n ih=>
  intro h
  rw[List.range_succ_eq_map,aqt,aqN,List.map_map]
  have:=ih (l:=l.drop c) (by rw[apU,h,art];omega)
  simp only[aq3]at this
  have e:(fun i=>(l.drop (i*c)).take c)∘Nat.succ=fun i=>(l.drop (c+i*c)).take c:=by
   funext i
   simp only[Function.comp,art,Nat.add_comm]
  rw[e,this]
  simp
theorem Br{α:Type}{c:Nat}: ∀{l:List (List α)},(∀x∈l,x.length=c)→ ∀{i:Nat} {u:α},l.flatten[i]?=some u→ ∃q r us,i=q*c+r∧r<c∧l[q]?=some us∧us[r]?=some u
 |[],_,i,u,h=>by simp at h
 |a::l,hl,i,u,h=>by
  rw[aqN,aqq]at h
  have ha:a.length=c:=hl a (by simp)
  split at h
  ·exact⟨0,i,a,by simp,by omega,rfl,h⟩
  ·obtain⟨q,r,us,h1,h2,h3,h4⟩:=Br (l:=l) (fun x hx=>hl x (by simp[hx])) h
   exact⟨q+1,r,us,by rw[art];omega,h2,by simpa using h3,h4⟩
theorem tW{P:Program}{cs:List Value}: ∀{fs:List Field} {o e:Nat},vM P fs o=some e→o≤e∧(fs.map fun g=>(cs.drop g.offset).take (P.cellsOf g.type)).flatten=(cs.drop o).take (e-o)
 |[],o,e,h=>by simp[vM]at h;subst h;simp
 |g::gs,o,e,h=>by
  simp only[vM]at h
  split at h
  ·rename_i hg
   obtain⟨h1,h2⟩:=tW (cs:=cs) h
   refine⟨by omega,?_⟩
   rw[aqt,aqN,h2,hg,←aq3,←List.take_add]
   congr 1
   omega
  ·simp at h
theorem oM{H:Type}{P:Program}{e:TypeId}: ∀{ds:List (DataW H)} {d:DataW H},d∈ds→ ∀n∈d.weights P e,n∈DataW.weightsAll P e ds
 |a::l,d,hd,n,hn=>by
  simp only[DataW.weightsAll,aqr]
  rcases ap8.1 hd with rfl|h
  ·exact .inl hn
  ·exact .inr (oM h n hn)
theorem NK{k:IntKind}{n:Int}(h:(Lit.int k n).wf=true):k.min≤n∧n≤k.max:=by
 simpa[Lit.wf]using h
theorem P7{w:World}{a:Addr}{u:Value}(h:w.cell? a=some u):a.spot=none∧a.block<w.heap.size:=by
 unfold World.cell? at h
 split at h
 ·rename_i c e fr hb
  split at h
  ·simp at h
  ·rename_i hs
   refine⟨?_,(ap4.1 hb).1⟩
   cases fB:a.spot with
   |none=>rfl
   |some x=>simp[fB]at hs
 ·simp at h
theorem Ii{a:Addr}(h:a.spot=none)(n:Nat):a.add n=⟨a.block,a.off+n,none⟩:=by
 unfold Addr.add
 split
 ·rename_i h0;subst h0;cases a;simp at h;subst h;rfl
 ·rfl
theorem trod_fits{H:Type}{enc:TypeId×Value→H}{P:Program}{w:World}{base:Nat}{sp:Nat→Bool}{held:Bool}: ∀(f:Nat) {fuel:Nat} {t:TypeId} {cs:List Value} {x:DataW H×List MemPlace},plain P f t=true→
  DataW.trod enc P w base sp held fuel t cs=some x→(∀n∈x.1.weights P t,n≤reachBytes)→ ∃xs,bh w (fun b=>b<w.heap.size) [] cs xs∧Fits P f t xs
 |0,fuel,t,cs,x,hp,h,hw=>by simp[plain]at hp
 |f+1,fuel,t,cs,x,hp,h,hw=>by
  simp only[plain]at hp
  split at hp
  ·rename_i ht
   obtain⟨b,rfl,rfl⟩:=DataW.trod_bool ht h
   exact⟨[.bool b],se .bool,by simp only[Fits,ht];exact⟨b,rfl⟩⟩
  ·rename_i k ht
   obtain⟨n,rfl,rfl,hn⟩:=DataW.trod_int ht h
   exact⟨[.int k n],se .int,by simp only[Fits,ht];exact⟨n,NK hn,rfl⟩⟩
  ·rename_i ht
   obtain⟨s,rfl,rfl,hs⟩:=DataW.trod_string ht h
   refine⟨[.str s.data.toList],se ?_,by simp only[Fits,ht];exact⟨_,hw _ (by simp[DataW.weights]),rfl⟩⟩
   exact Rd.str (s:=s.data.toList)
  ·rename_i e ht
   simp only[apP,decide_eq_true_eq]at hp
   obtain⟨⟨hc,yn⟩,P8⟩:=hp
   rcases DataW.trod_slice ht h with⟨rfl,rfl⟩|⟨a,len,cap,elems,rest,n,rfl,rfl,rfl,hb,hl,hm,hlen,tX,-,-⟩
   ·exact⟨[.sl 0 []],se .lB,by simp only[Fits,ht];exact⟨[],by simp,by simp,by simp,rfl⟩⟩
   ·simp only[DataW.weights,ht,ap8,aqr]at hw
    have wV:=hw _ (.inl rfl)
    simp only[aqz]at wV
    have Va:len*P.bytesOf e≤reachBytes:=aqD (aqI _ (by omega)) wV
    have ajv:len≤reachBytes:=aqD (Nat.le_mul_of_pos_right _ yn) Va
    by_cases h0:len=0
    ·subst h0
     exact⟨[.sl 0 []],se .oO,by simp only[Fits,ht];exact⟨[],by simp,by simp,by simp,rfl⟩⟩
    ·have each: ∀i∈List.range len,∃p:List Value×List V,w.cells? base (a.add (i*P.cellsOf e)) (P.cellsOf e)=some p.1∧bh w (fun b=>b<w.heap.size) [] p.1 p.2∧Fits P f e p.2:=by
      intro i hi
      have hi:=aqv.1 hi
      have hb:=tX i hi
      have hy:elems[i]?=some (elems[i]'(by omega)):=ap5 (by omega)
      rw[hy]at hb
      obtain⟨iy,h1,h2⟩:=Option.bind_eq_some_iff.1 hb
      obtain⟨xs,h3,h4⟩:=trod_fits f P8 h2 fun m hm=>hw _ (.inr (.inl (oM (aqd.2 ⟨_,apY _,rfl⟩) m hm)))
      exact⟨(iy,xs),h1,h3,h4⟩
     obtain⟨m,rp,j3⟩:=qm each
     simp only[List.length_range]at rp
     have bA: ∀i p,m[i]?=some p→w.cells? base (a.add (i*P.cellsOf e)) (P.cellsOf e)=some p.1∧bh w (fun b=>b<w.heap.size) [] p.1 p.2∧Fits P f e p.2:=by
      intro i p hi
      have aO:=(apN.1 hi).1
      exact j3 i i p (by rw[aqK (by omega)]) hi
     have NL:a.spot=none∧a.block<w.heap.size:=by
      obtain⟨p,hp⟩:=aC (l:=m) (i:=0) (by omega)
      obtain⟨-,eR,rq⟩:=World.cells?_some (bA 0 p hp).1
      have:=rq 0 hc
      obtain⟨u,hu⟩:=aC (l:=p.1) (i:=0) (by omega)
      rw[hu]at this
      have:=P7 this
      simpa[Addr.add]using this
     refine⟨[.sl len (m.map (·.2)).flatten],se (Rd.sl (us:=(m.map (·.1)).flatten) NL.1 NL.2 hl ?_ ?_ ?_),?_⟩
     ·refine(mZ (w:=w) (ro:=fun b=>b<w.heap.size) (ρ:=[]) (MB:=m.map (·.1)) (je:=m.map (·.2)) (by simp) ?_).1
      intro i us ys hu hy
      simp only[apZ,ap0]at hu hy
      obtain⟨p,hp,rfl⟩:=hu
      obtain⟨p',sI,rfl⟩:=hy
      rw[hp]at sI;cases sI
      exact(bA i p hp).2.1
     ·intro i u hu
      obtain⟨q,r,us,rfl,hr,hq,hur⟩:=Br (c:=P.cellsOf e) (l:=m.map (·.1)) (by
       intro us fQ
       obtain⟨p,hp,rfl⟩:=aqd.1 fQ
       obtain⟨i,hi⟩:=aqm.1 hp
       exact(World.cells?_some (bA i p hi).1).2.1) hu
      simp only[apZ,ap0]at hq
      obtain⟨p,hp,rfl⟩:=hq
      have:=(World.cells?_some (bA q p hp).1).2.2 r hr
      rw[hur,Ii NL.1,Ii rfl]at this
      rw[←this]
      simp[aq8]
     ·refine(mZ (w:=w) (ro:=fun b=>b<w.heap.size) (ρ:=[]) (MB:=m.map (·.1)) (je:=m.map (·.2)) (by simp) ?_).2
      intro i us ys hu hy
      simp only[apZ,ap0]at hu hy
      obtain⟨p,hp,rfl⟩:=hu
      obtain⟨p',sI,rfl⟩:=hy
      rw[hp]at sI;cases sI
      exact(bA i p hp).2.1
     ·simp only[Fits,ht]
      refine⟨m.map (·.2),by simp;omega,by simp[rp];exact Va,?_,by simp[rp]⟩
      intro ys XX
      obtain⟨p,hp,rfl⟩:=aqd.1 XX
      obtain⟨i,hi⟩:=aqm.1 hp
      exact(bA i p hi).2.2
  ·rename_i fs ht
   simp only[apP,decide_eq_true_eq,ap1]at hp
   obtain⟨hc,hpf⟩:=hp
   obtain⟨ys,n,rfl,rfl,bZ,hyl,tX⟩:=DataW.trod_struct ht h
   simp only[DataW.weights,ht]at hw
   have each: ∀i∈List.range fs.size,∃xs:List V,∀g,fs[i]?=some g→bh w (fun b=>b<w.heap.size) [] ((cs.drop g.offset).take (P.cellsOf g.type)) xs∧Fits P f g.type xs:=by
    intro i hi
    have hi:=aqv.1 hi
    have hg:fs[i]?=some fs[i]:=aqs hi
    have hb:=tX i _ hg
    have hy:ys[i]?=some (ys[i]'(by omega)):=ap5 (by omega)
    rw[hy]at hb
    obtain⟨xs,h3,h4⟩:=trod_fits f (hpf fs[i] (by simp)) hb fun m hm=>hw _ (DataW.weights_mem_each (j:=i) (by simp[hi]) (by simp[hy]) m hm)
    refine⟨xs,fun g MC=>?_⟩
    rw[hg]at MC;cases MC
    exact⟨h3,h4⟩
   obtain⟨m,rp,j3⟩:=qm each
   simp only[List.length_range]at rp
   have bA: ∀(i:Nat) xs g,m[i]?=some xs→fs[i]?=some g→bh w (fun b=>b<w.heap.size) [] ((cs.drop g.offset).take (P.cellsOf g.type)) xs∧Fits P f g.type xs:=by
    intro i xs g hi hg
    have aO:=(apN.1 hi).1
    exact j3 i i xs (by rw[aqK (by omega)]) hi g hg
   refine⟨m.flatten,?_,by simp only[Fits,ht];exact⟨m,rp,fun i ys g h1 h2=>(bA i ys g h1 h2).2,rfl⟩⟩
   have Bt:=(tW (cs:=cs) hc).2
   rw[List.drop_zero,Nat.sub_zero,apR (by omega)]at Bt
   rw[←Bt]
   refine mZ (by simp[rp]) fun i us xs hu hx=>?_
   simp only[apZ,ap0,Array.getElem?_toList]at hu
   obtain⟨g,hg,rfl⟩:=hu
   exact(bA i xs g hx hg).1
  ·rename_i n e ht
   simp only[apP,decide_eq_true_eq]at hp
   obtain⟨hc,P8⟩:=hp
   obtain⟨ys,k,rfl,rfl,bZ,hyl,tX⟩:=DataW.trod_array ht h
   simp only[DataW.weights,ht]at hw
   have each: ∀i∈List.range n,∃xs:List V,bh w (fun b=>b<w.heap.size) [] ((cs.drop (i*P.cellsOf e)).take (P.cellsOf e)) xs∧Fits P f e xs:=by
    intro i hi
    have hi:=aqv.1 hi
    have hb:=tX i hi
    have hy:ys[i]?=some (ys[i]'(by omega)):=ap5 (by omega)
    rw[hy]at hb
    exact trod_fits f P8 hb fun m hm=>hw _ (oM (aqd.2 ⟨_,apY _,rfl⟩) m hm)
   obtain⟨m,rp,j3⟩:=qm each
   simp only[List.length_range]at rp
   have bA: ∀(i:Nat) xs,m[i]?=some xs→bh w (fun b=>b<w.heap.size) [] ((cs.drop (i*P.cellsOf e)).take (P.cellsOf e)) xs∧Fits P f e xs:=by
    intro i xs hi
    have aO:=(apN.1 hi).1
    exact j3 i i xs (by rw[aqK (by omega)]) hi
   refine⟨m.flatten,?_,?_⟩
   ·rw[←chunks_flatten (l:=cs) (P.cellsOf e) n (by omega)]
    refine mZ (by simp[rp]) fun i us xs hu hx=>?_
    simp only[apZ,ap0]at hu
    obtain⟨j,hj,rfl⟩:=hu
    have aO:=(apN.1 hx).1
    rw[aqK (by omega)]at hj
    cases hj
    exact(bA i xs hx).1
   ·simp only[Fits,ht]
    refine⟨m,rp,fun ys XX=>?_,rfl⟩
    obtain⟨i,hi⟩:=aqm.1 XX
    exact(bA i ys hi).2
  ·simp at hp
end
end Go.VS
set_option linter.all false
namespace Go.VS
open Go.ChangeShapes Go.WideShapes Go.RowKit
def mg(P:Program)(f:Nat)(t:TypeId)(x:V):Prop:=match P.underlying t with
 |some (.struct _)=> ∃xs,Fits P f t xs∧x=.agg xs
 |some (.array _ _)=> ∃xs,Fits P f t xs∧x=.agg xs
 |_=>Fits P f t [x]
def oe(P:Program)(f:Nat):List TypeId→List V→Prop
 |[],[]=>True
 |t::ts,x::xs=>mg P f t x∧oe P f ts xs
 |_,_=>False
theorem Ls{P:Program}{w:World}{r:Reach}{base:Nat}{t:TypeId}{v:Value}{n:Nat}{e:TypeId}(ht:P.underlying t=some (.array n e))(h:Value.okWide P w r base t v): ∃cs,v=.agg cs:=by
 unfold Value.okWide at h
 rw[ht]at h
 obtain⟨cs,rfl,-⟩:=h
 exact⟨cs,rfl⟩
section
variable {H : Type} {enc : TypeId × Value → H} {P : Program} {w : World} {base : Nat} {sp : Nat → Bool} {held : Bool}
theorem NM{u:Value}{xs:List V}{ro:Nat→Prop}{ρ:bP}(h:bh w ro ρ [u] xs): ∃x,xs=[x]∧Rd w ro ρ u x:=by
 match xs,h with
 |[x],h=>exact⟨x,rfl,h.2 0 u x rfl rfl⟩
 |[],h=>simp[bh]at h
 |_::_::_,h=>simp[bh]at h
theorem val_fits{f:Nat}{r:Reach}{b0:Nat}{t:TypeId}{v:Value}{d:DataW H}{ps:List MemPlace}(hp:plain P f t=true)(hv:Value.okWide P w r b0 t v)(h:DataW.Trod enc P w base sp held t v d ps)
  (hw: ∀n∈d.weights P t,n≤reachBytes): ∃x,Rd w (fun b=>b<w.heap.size) [] v x∧mg P f t x:=by
 obtain⟨fuel,h⟩:=h
 obtain⟨xs,h1,h2⟩:=trod_fits f hp h hw
 cases f with
 |zero=>simp[plain]at hp
 |succ f=>
  have one:v.cells=#[v]→(∀fs,P.underlying t≠some (.struct fs))→(∀n e,P.underlying t≠some (.array n e))→ ∃x,Rd w (fun b=>b<w.heap.size) [] v x∧mg P (f+1) t x:=by
   intro hc hs ha
   rw[hc]at h1
   obtain⟨x,rfl,hx⟩:=NM h1
   refine⟨x,hx,?_⟩
   unfold mg
   split
   ·rename_i e;exact absurd e (hs _)
   ·rename_i e;exact absurd e (ha _ _)
   ·exact h2
  simp only[plain]at hp
  split at hp
  ·rename_i ht;obtain⟨b,rfl⟩:=okWide_bool ht hv;exact one rfl (by simp[ht]) (by simp[ht])
  ·rename_i ht;obtain⟨b,rfl⟩:=okWide_int ht hv;exact one rfl (by simp[ht]) (by simp[ht])
  ·rename_i ht;obtain⟨b,rfl⟩:=okWide_string ht hv;exact one rfl (by simp[ht]) (by simp[ht])
  ·rename_i ht;obtain⟨a,l,c,rfl⟩:=okWide_slice ht hv;exact one rfl (by simp[ht]) (by simp[ht])
  ·rename_i ht
   obtain⟨cs,rfl,-⟩:=okWide_struct ht hv
   exact⟨.agg xs,Rd.agg (by simpa[Value.cells]using h1.1) (fun i u x hu hx=>h1.2 i u x (by simpa[Value.cells]using hu) hx),by simp only[mg,ht];exact⟨xs,h2,rfl⟩⟩
  ·rename_i ht
   obtain⟨cs,rfl⟩:=Ls ht hv
   exact⟨.agg xs,Rd.agg (by simpa[Value.cells]using h1.1) (fun i u x hu hx=>h1.2 i u x (by simpa[Value.cells]using hu) hx),by simp only[mg,ht];exact⟨xs,h2,rfl⟩⟩
  ·simp at hp
theorem trodAll_fits{f:Nat}{r:Reach}{b0:Nat}: ∀{ts:List TypeId} {vs:List Value} {ds:List (DataW H)} {ps:List MemPlace},(∀t∈ts,plain P f t=true)→
  (∀(j:Nat) t v,ts[j]?=some t→vs[j]?=some v→Value.okWide P w r b0 t v)→DataW.TrodAll enc P w base sp held ts vs ds ps→(∀n∈DataW.weightsEach P ts ds,n≤reachBytes)→
  ∃xs,bh w (fun b=>b<w.heap.size) [] vs xs∧oe P f ts xs
 |[],vs,ds,ps,hp,hv,h,hw=>by
  obtain⟨rfl,rfl,rfl⟩:=trodAll_nil h
  exact⟨[],⟨rfl,fun i u x h=>by simp at h⟩,trivial⟩
 |t::ts,vs,ds,ps,hp,hv,h,hw=>by
  obtain⟨v,vs,d,ds,p,q,rfl,rfl,rfl,h0,r0⟩:=trodAll_cons h
  simp only[DataW.weightsEach,aqr]at hw
  obtain⟨x,hx,hf⟩:=val_fits (hp t (by simp)) (hv 0 t v rfl rfl) h0 fun n hn=>hw n (.inl hn)
  obtain⟨xs,MD,XY⟩:=trodAll_fits (ts:=ts) (fun t ht=>hp t (by simp[ht])) (fun j t v h1 h2=>hv (j+1) t v (by simpa using h1) (by simpa using h2)) r0 fun n hn=>hw n (.inr hn)
  exact⟨x::xs,⟨by simp[MD.1],fun i u y hu hy=>by
   cases i with
   |zero=>simp at hu hy;subst hu;subst hy;exact hx
   |succ i=>exact MD.2 i u y (by simpa using hu) (by simpa using hy)⟩,hf,XY⟩
theorem qX(hl:laidOutB P=true){W':World}{sp':Nat→Bool}: ∀{ts:List TypeId} {vs:List Value} {ds:List (DataW H)} {ps:List MemPlace},(∀t∈ts,P.readableRec t=true∧t<P.types.size)→
  DataW.TrodAll enc P w base (fun _=>true) true ts vs ds ps→(∀p∈ps,w.sameAt W' p)→(∀p∈ps,sp' p.block=true)→DataW.TrodAll enc P W' base sp' true ts vs ds ps
 |[],vs,ds,ps,_,h,_,_=>by
  obtain⟨rfl,rfl,rfl⟩:=trodAll_nil h
  exact trodAll_mk0
 |t::ts,vs,ds,ps,hr,h,h1,h2=>by
  obtain⟨v,vs,d,ds,p,q,rfl,rfl,rfl,h0,r0⟩:=trodAll_cons h
  exact trodAll_cons_mk (WideElems.Trod_stays hl (hr t (by simp)).1 (hr t (by simp)).2 h0 (fun p hp=>h1 p (by simp[hp])) (fun p hp=>h2 p (by simp[hp])))
   (qX hl (fun t ht=>hr t (by simp[ht])) r0 (fun p hp=>h1 p (by simp[hp])) (fun p hp=>h2 p (by simp[hp])))
end
theorem vd{H:Type}{enc:TypeId×Value→H}{P:Program}{w:World}{base:Nat}{sp:Nat→Bool}{held:Bool}: ∀{ts:List TypeId} {vs:List Value} {ds:List (DataW H)} {ps:List MemPlace},DataW.TrodAll enc P w base sp held ts vs ds ps→ds.length=ts.length
 |[],vs,ds,ps,h=>by obtain⟨rfl,rfl,rfl⟩:=trodAll_nil h;rfl
 |t::ts,vs,ds,ps,h=>by
  obtain⟨v,vs,d,ds,p,q,rfl,rfl,rfl,h0,r0⟩:=trodAll_cons h
  simp[vd r0]
theorem abM{C:Checked}{f:FuncId}{fn:Func}{s:ChangeSpec}{conds:List PathCond}{K:Nat}{tb:TypeId}(own:ownKnob C.prog.godebug=none)(hl:laidOutB C.prog=true)(Ij:C.prog.inits.idxOf? f=none)
  (hfn:C.prog.funcs[f]?=some fn) (wW:s.vars=[]) (NN: ∀(H:Type) (ds:List (DataW H)),ds.length=fn.params.toList.length→s.fn H ds={results:=[.lit (.bool true)],args:=ds})
  (gD:fn.resultTypes=#[tb]) (XZ:C.prog.underlying tb=some .bool) (eR:(fn.params.toList.all fun t=>plain C.prog K t&&C.prog.readableRec t&&decide (t<C.prog.types.size))=true)
  (F3:C.prog.globalNamed "internal/bytealg.MaxLen"=none) (call: ∀xs,oe C.prog K fn.params.toList xs→ao C.prog f xs (.bool true)) (os:Os) (started:os.Started) (H:Type) (enc:TypeId×Value→H)
  (witness: ∃(w:World) (tape:Tape) (i:Input),w.os=os∧(w.forCall tape i).Shaped C.prog∧i.vars=[]∧Input.okWide C.prog (w.forCall tape i) .any w.heap.size f i∧
   s.pre6 enc C.prog fn conds false (w.forCall tape i).memory i.args∧({}:Assume).holds C.prog (lone (Frame.enter C.prog f i.args .normal) [] (w.forCall tape i))):
  ReturnsInHanded {} C os f .any (s.pre6 enc C.prog fn conds false) (s.post enc C.prog fn false true false false):=by
 refine returnsInHanded_of_change_sized own started Ij hfn witness ?_
 intro W base args ds gs before S7 hW ab cm X1
 have Ik:=hW
 obtain⟨p,q,hA,hV,rfl,P9,j4⟩:=hW
 rw[wW]at hV
 obtain⟨rfl,rfl⟩:=trodVars_none hV
 simp only[aqp]at Ik cm P9
 have Il: ∀t∈fn.params.toList,plain C.prog K t=true∧C.prog.readableRec t=true∧t<C.prog.types.size:=by
  intro t ht
  have:=ap1.1 eR t ht
  simp only[apP,decide_eq_true_eq]at this
  exact⟨this.1.1,this.1.2,this.2⟩
 have X2:s.plain.varTypes C.prog=[]:=by simp[DataSpec.varTypes,ChangeSpec.plain,wW]
 rw[X2,aqp]at cm
 have X3: ∀n∈DataW.weightsEach C.prog fn.params.toList ds,n≤reachBytes:=fun n hn=>by simpa using ap1.1 cm n hn
 obtain⟨xs,MD,yD⟩:=trodAll_fits (fun t ht=>(Il t ht).1) (fun j t v h1 h2=>S7 j t v (by simpa using h1) (by simpa using h2)) hA X3
 refine((call xs yD).below (w:=W) (vs:=args) MD (.none F3)).mono ?_
 rintro e W' ⟨rfl,hb⟩
 have aO: ∀x∈p,x.block<W.heap.size:=fun x hx=>Ik.lt x hx
 have fB:=NN H ds (vd hA)
 have hold: ∀x∈p,decide (x.block<W.heap.size)=true:=fun x hx=>by simpa using aO x hx
 refine⟨_,rfl,ds,[],p,[],p,[],Ik,?_,?_,?_,World.keptBut_mono (fun x hx=>⟨hx,.inr (by simpa using hx)⟩) (hb.frame (· ∈p)),fun h=>by cases h⟩
 ·rw[gD]
  simp only[aqp]
  rw[fB]
  exact trodAll_cons_mk (shut_bool XZ _) trodAll_mk0
 ·simp only[aqp]
  rw[fB]
  exact qX hl (fun t ht=>(Il t ht).2) hA (fun x hx=>hb.same (aO x hx)) hold
 ·simp only[aqp]
  rw[fB,wW]
  rfl
end Go.VS
set_option linter.all false
namespace Go.VS
section
variable {P : Program} {f : Nat} {t e : TypeId} {x : V} {n : Nat}
theorem sJ{ts:List TypeId}{xs:List V}(h:oe P f (t::ts) xs): ∃y ys,xs=y::ys∧mg P f t y∧oe P f ts ys:=by
 cases xs with
 |nil=>exact h.elim
 |cons y ys=>exact⟨y,ys,rfl,h.1,h.2⟩
theorem Lt{xs:List V}(h:oe P f [] xs):xs=[]:=by
 cases xs with
 |nil=>rfl
 |cons y ys=>exact h.elim
theorem vN{α β:Type}{R:α→Prop}(g:α→β): ∀{je:List (List β)},(∀ys∈je,∃a,R a∧ys=[g a])→ ∃l:List α,l.length=je.length∧(∀a∈l,R a)∧je.flatten=l.map g
 |[],_=>⟨[],rfl,by simp,rfl⟩
 |ys::je,h=>by
  obtain⟨a,ha,rfl⟩:=h ys (by simp)
  obtain⟨l,h1,h2,h3⟩:=vN g (je:=je) fun ys hy=>h ys (by simp[hy])
  exact⟨a::l,by simp[h1],by simpa using⟨ha,h2⟩,by simp[h3]⟩
theorem S8{n:Nat}(h:n≤reachBytes):n≤140737488355328:=aqD h (aqx reachBytes_lt)
theorem Qa{k:Int}(h:IntKind.i64.min≤k∧k≤IntKind.i64.max): -9223372036854775808≤k∧k≤9223372036854775807:=by
 simpa[IntKind.min,IntKind.max,IntKind.signed,IntKind.bits]using h
theorem fits_bool(ht:P.underlying t=some .bool)(h:mg P (f+1) t x): ∃b,x=.bool b:=by
 simpa[mg,ht,Fits]using h
theorem fits_int(ht:P.underlying t=some (.int .i64))(h:mg P (f+1) t x): ∃k:Int,(-9223372036854775808≤k∧k≤9223372036854775807)∧x=.int .i64 k:=by
 simp only[mg,ht,Fits]at h
 obtain⟨k,h1,h2⟩:=h
 exact⟨k,Qa h1,by simpa using h2⟩
theorem Qb(ht:P.underlying t=some (.slice e))(he:P.underlying e=some (.int .i64))(h:mg P (f+2) t x):
  ∃l:List Int,l.length≤140737488355328∧(∀k∈l,-9223372036854775808≤k∧k≤9223372036854775807)∧x=.sl l.length (l.map (V.int .i64)):=by
 simp only[mg,ht,Fits,he]at h
 obtain⟨je,h1,-,h2,h0⟩:=h
 obtain⟨l,h3,h5,h4⟩:=vN (R:=fun k:Int=> -9223372036854775808≤k∧k≤9223372036854775807) (V.int .i64) (je:=je) fun ys hy=>by
  obtain⟨k,hk,rfl⟩:=h2 ys hy
  exact⟨k,Qa hk,rfl⟩
 exact⟨l,S8 (by omega),h5,by rw[h3,←h4];simpa using h0⟩
end
end Go.VS
set_option linter.all false
namespace Go.VS
def aE:List V→List (Option V)→List V
 |a::s,some v::u=>v::aE s u
 |a::s,none::u=>a::aE s u
 |s,_=>s
theorem afa{a v:V}{s:List V}{u:List (Option V)}:aE (a::s) (some v::u)=v::aE s u:=rfl
theorem afb{a:V}{s:List V}{u:List (Option V)}:aE (a::s) (none::u)=a::aE s u:=rfl
theorem ahh{a:V}{s:List V}:aE (a::s) []=a::s:=rfl
theorem afc:aE [] []=[]:=rfl
section
variable {P : Program} {n0 : Nat} {Q : Exit → KS} {s : List V} {rows : List Row}
theorem aV(U:Nat→List (Option V))(R:Nat→List Row)(n:Nat){code:Code}(hle:Le n0 s rows (aE s (U 0)) (R 0))
  (round: ∀i,i≤n→ ∀K:KS,(∀s' ad,i<n→Le n0 s' ad (aE s (U (i+1))) (R (i+1))→K s' ad)→aS P n0 code (cZ K Q) (aE s (U i)) (R i)):aS P n0 (.loop code) Q s rows:=
 F4 (fun i=>aE s (U i)) R n hle round
theorem bm{α:Type}(U:α→List (Option V))(R:α→List Row)(H:α→Prop)(μ:α→Nat)(x0:α){code:Code}(h0:H x0)(hle:Le n0 s rows (aE s (U x0)) (R x0))
  (round: ∀x,H x→ ∀K:KS,(∀x' s' ad,H x'→μ x'<μ x→Le n0 s' ad (aE s (U x')) (R x')→K s' ad)→aS P n0 code (cZ K Q) (aE s (U x)) (R x)):aS P n0 (.loop code) Q s rows:=
 yE (fun x=>aE s (U x)) R H μ x0 h0 hle round
theorem Im{K:KS}:cZ K Q .normal=K:=rfl
theorem NO{K:KS}{j:Nat}:cZ K Q (.exit j)=Q (.exit j):=rfl
theorem F5{K:KS}:cZ K Q .ret=Q .ret:=rfl
theorem Bu{j:Nat}:jv j Q (.exit j)=Q .normal:=by simp[jv]
theorem F6{i j:Nat}(h:(i==j)=false):jv j Q (.exit i)=Q (.exit i):=by simp at h;simp[jv,h]
theorem yo{j:Nat}:jv j Q .normal=Q .normal:=rfl
theorem C2{j:Nat}:jv j Q .ret=Q .ret:=rfl
theorem af{s':List V}{code:Code}(e:s=s')(h:aS P n0 code Q s' rows):aS P n0 code Q s rows:=by subst e;exact h
theorem S9{ops:Array Oper}{K:KS}{o:Oper}{os:List Oper}(hg:o.guard=none)(h: ∀K2:KV,(∀v ad,bj P ops os (aD s o.dst v) ad K→K2 v ad)→bF P false o.op rows.length s rows K2):bj P ops (o::os) s rows K:=
 dn (by unfold cV;rw[hg]) h
theorem NP{ops:Array Oper}{K:KS}{os:List Oper}{s s':List V}(e:s=s')(h:bj P ops os s' rows K):bj P ops os s rows K:=by subst e;exact h
theorem ky{id m:Nat}{ops:Array Oper}(hn:ez ops=m)(ms:List Nat)(hm:P.follows .mixedOrders=true)(hi:indep (ef ms) ops=true)
  (h:au P ops [] ms ops.toList rows.length s (rows++List.replicate m .bu) (Q .normal)):aS P n0 (.region id ops true) Q s rows:=jw (tY.2 trivial) hm ms hi hn h
theorem kz{id m:Nat}{ops:Array Oper}(F:List (Nat×Nat×V))(hF:bW F rows)(hn:ez ops=m)(ms:List Nat)(hm:P.follows .mixedOrders=true)(hi:indep (ef ms) ops=true)
  (h:au P ops F ms ops.toList rows.length s (rows++List.replicate m .bu) (Q .normal)):aS P n0 (.region id ops true) Q s rows:=jw hF hm ms hi hn h
theorem C3(b:Bool)(id:Nat):(bif b then id+1 else id)=if b=true then id+1 else id:=by cases b<;>rfl
theorem lC{ops:Array Oper}{F:List (Nat×Nat×V)}{K:KS}{o:Oper}{os:List Oper}{ms:List Nat}{id:Nat}(hg:cV ops o.guard s=some true)
  (h: ∀K2:KV,(∀v ad,au P ops F ms.tail os (bif aU o.op then id+1 else id) (aD s o.dst v) ad K→K2 v ad)→cp P F (ms.headD 0) o.op id s rows K2):au P ops F ms (o::os) id s rows K:=
 Cg hg fun K2 iM=>h K2 fun v ad hv=>iM v ad (C3 (aU o.op) id▸hv)
theorem qw{ops:Array Oper}{F:List (Nat×Nat×V)}{K:KS}{o:Oper}{os:List Oper}{ms:List Nat}{id:Nat}(hg:cV ops o.guard s=some false)
  (h:au P ops F ms.tail os (bif aU o.op then id+1 else id) (aD s o.dst .aa) rows K):au P ops F ms (o::os) id s rows K:=
 Ch hg (C3 (aU o.op) id▸h)
theorem qx{ops:Array Oper}{F:List (Nat×Nat×V)}{K:KS}{o:Oper}{os:List Oper}{ms:List Nat}{id:Nat}(hg:o.guard=none)
  (h: ∀K2:KV,(∀v ad,au P ops F ms.tail os (bif aU o.op then id+1 else id) (aD s o.dst v) ad K→K2 v ad)→cp P F (ms.headD 0) o.op id s rows K2):au P ops F ms (o::os) id s rows K:=
 lC (by unfold cV;rw[hg]) h
theorem yF{ops:Array Oper}{F:List (Nat×Nat×V)}{K:KS}{o:Oper}{os:List Oper}{ms:List Nat}{id:Nat}(hg:o.guard=none)(hn:aU o.op=false)
  (h: ∀K2:KV,(∀v ad,au P ops F ms.tail os id (aD s o.dst v) ad K→K2 v ad)→cp P F (ms.headD 0) o.op id s rows K2):au P ops F ms (o::os) id s rows K:=
 qx hg fun K2 iM=>h K2 fun v ad hv=>iM v ad (by rw[hn];exact hv)
theorem yG{ops:Array Oper}{F:List (Nat×Nat×V)}{K:KS}{o:Oper}{os:List Oper}{ms:List Nat}{id:Nat}(hg:o.guard=none)(hn:aU o.op=true)
  (h: ∀K2:KV,(∀v ad,au P ops F ms.tail os (id+1) (aD s o.dst v) ad K→K2 v ad)→cp P F (ms.headD 0) o.op id s rows K2):au P ops F ms (o::os) id s rows K:=
 qx hg fun K2 iM=>h K2 fun v ad hv=>iM v ad (by rw[hn];exact hv)
theorem Ci{ops:Array Oper}{F:List (Nat×Nat×V)}{K:KS}{o:Oper}{os:List Oper}{ms:List Nat}{id:Nat}(hn:aU o.op=false)(hg:cV ops o.guard s=some true)
  (h: ∀K2:KV,(∀v ad,au P ops F ms.tail os id (aD s o.dst v) ad K→K2 v ad)→cp P F (ms.headD 0) o.op id s rows K2):au P ops F ms (o::os) id s rows K:=
 lC hg fun K2 iM=>h K2 fun v ad hv=>iM v ad (by rw[hn];exact hv)
theorem Cj{ops:Array Oper}{F:List (Nat×Nat×V)}{K:KS}{o:Oper}{os:List Oper}{ms:List Nat}{id:Nat}(hn:aU o.op=true)(hg:cV ops o.guard s=some true)
  (h: ∀K2:KV,(∀v ad,au P ops F ms.tail os (id+1) (aD s o.dst v) ad K→K2 v ad)→cp P F (ms.headD 0) o.op id s rows K2):au P ops F ms (o::os) id s rows K:=
 lC hg fun K2 iM=>h K2 fun v ad hv=>iM v ad (by rw[hn];exact hv)
theorem Cl{ops:Array Oper}{F:List (Nat×Nat×V)}{K:KS}{o:Oper}{os:List Oper}{ms:List Nat}{id:Nat}(hn:aU o.op=false)(hg:cV ops o.guard s=some false)
  (h:au P ops F ms.tail os id (aD s o.dst .aa) rows K):au P ops F ms (o::os) id s rows K:=
 qw hg (by rw[hn];exact h)
theorem Cm{ops:Array Oper}{F:List (Nat×Nat×V)}{K:KS}{o:Oper}{os:List Oper}{ms:List Nat}{id:Nat}(hn:aU o.op=true)(hg:cV ops o.guard s=some false)
  (h:au P ops F ms.tail os (id+1) (aD s o.dst .aa) rows K):au P ops F ms (o::os) id s rows K:=
 qw hg (by rw[hn];exact h)
theorem sK{ops:Array Oper}{F:List (Nat×Nat×V)}{K:KS}{os:List Oper}{ms yH:List Nat}{id:Nat}{s s':List V}(e:s=s')(em:ms=yH)(h:au P ops F yH os id s' rows K):au P ops F ms os id s rows K:=by subst e;subst em;exact h
theorem C4{rs:List ResultVar}{R:V→List Row→Prop}(h:pQ P s rows rs fun r=>R r rows):bz P rs R .ret s rows:=h
theorem ME{rs:List ResultVar}{R:V→List Row→Prop}(h:pQ P s rows rs fun r=>R r rows):bz P rs R .normal s rows:=h
end
def bf(cs:List V):Prop:= ∀x∈cs,x.Pure
@[simp] theorem ac1:bf []:=by intro x h;simp at h
@[simp] theorem abN{x:V}{l:List V}:bf (x::l)↔x.Pure∧bf l:=by simp[bf]
@[simp] theorem Io{l m:List V}:bf (l++m)↔bf l∧bf m:=by
 simp only[bf,aqr]
 exact⟨fun h=>⟨fun x hx=>h x (.inl hx),fun x hx=>h x (.inr hx)⟩,fun h x hx=>hx.elim (h.1 x) (h.2 x)⟩
@[simp] theorem Lu{l:List UInt8}:bf (l.map aF):=by
 intro x h;obtain⟨y,-,rfl⟩:=aqd.1 h;simp
@[simp] theorem NQ{l:List (List UInt8)}:bf (l.map V.str):=by
 intro x h;obtain⟨y,-,rfl⟩:=aqd.1 h;simp
@[simp] theorem abO{k:IntKind}{l:List Int}:bf (l.map (V.int k)):=by
 intro x h;obtain⟨y,-,rfl⟩:=aqd.1 h;simp
@[simp] theorem Vb{n:Nat}{x:V}(hx:x.Pure):bf (List.replicate n x):=by
 intro y h;obtain rfl:=List.eq_of_mem_replicate h;exact hx
theorem C5{n:Nat}{l:List V}(h:bf l):bf (l.take n):=fun x hx=>h x (arD hx)
@[simp] theorem X4{ex:Bool}{m:List (Option Nat)}{cs:List V}(h:bf cs):nd ex m (.live cs) (.live cs)↔True:=qn h
end Go.VS
set_option linter.all false
namespace Go.VS
variable {rd : Option Nat} {b0 : Nat}
def fz(id:Nat)(cs:List V):V→V
 |.av j off n sz=>if j=id∧off+n*sz≤cs.length then .sl n ((cs.drop off).take (n*sz))else .av j off n sz
 |.ref j off=>if j=id∧cs≠ []∧off≤cs.length then .aL (cs.drop off)else .ref j off
 |x=>x
def im(id:Nat)(cs:List V):Row→Row
 |.live ds=>.live (ds.map (fz id cs))
 |r=>r
section
variable {c : Ctx} {rows : List Row} {w : World} {ro : Nat → Prop} {ρ : bP}
theorem ct.Vc{b o:Nat}{cs:List V}(h:ct w ro ρ b o cs)(n:Nat):ct w ro ρ b (o+n) (cs.drop n):=by
 intro i v hv
 rw[aqb]at hv
 obtain⟨u,hu,hr⟩:=h (n+i) v hv
 exact⟨u,by rwa[aq8],hr⟩
theorem ct.abP{b o:Nat}{cs:List V}(h:ct w ro ρ b o cs)(n:Nat):ct w ro ρ b o (cs.take n):=by
 intro i v hv
 rw[aqc]at hv
 split at hv
 ·exact h i v hv
 ·simp at hv
theorem Good.freeze(g:Good c rows w ro ρ){id:Nat}{cs:List V}(hl:rows[id]?=some (.live cs))(hp:bf cs):
  ∃aY ρ',Good c ((rows.set id .dead).map (im id cs)) w aY ρ'∧(∀u v,Rd w ro ρ u v→Rd w aY ρ' u (fz id cs v))∧ ∀b,ro b→aY b:=by
 obtain⟨g1,e1⟩:=g.kill hl
 have key: ∃aY,Good c (rows.set id .dead) w aY (ρ.set id .dead)∧Ext w ro ρ w aY (ρ.set id .dead)∧ ∀u v,Rd w ro ρ u v→Rd w aY (ρ.set id .dead) u (fz id cs v):=by
  rcases g.row id _ hl with⟨x,hx,bA⟩|⟨hc,hv⟩
  ·obtain⟨g2,e2⟩:=g1.abQ (k:=x.b) (g.oP hx) (fun j y hy=>by
    rw[aqB]at hy
    split at hy
    ·split at hy<;>simp at hy
    ·rename_i bw
     exact fun e=>bw (g.inj id j x y hx hy e.symm)) (g.cK id x hx).1
   have e:=e1.trans e2
   refine⟨_,g2,e,fun u v h=>?_⟩
   have cv:ct w (fun b=>ro b∨b=x.b) [] x.b x.o cs:=by
    intro i v hv
    obtain⟨u,hu,hr⟩:=bA.pR i v hv
    refine⟨u,hu,(hr.pure (hp v (mem_of_getElem? hv)) []).ext ⟨fun b h=>.inl h,fun _ _=>rfl,fun id y h=>by simp at h⟩⟩
   unfold fz
   split
   ·rename_i j off n sz
    split
    ·rename_i hj
     obtain⟨rfl,hle⟩:=hj
     rcases vO g h hl with⟨rfl,rfl,hc,-⟩|⟨y,o,cap,hy,afd,rfl,ho,hn,hm⟩
     ·simp;exact .lB
     ·rw[hx]at hy
      simp at hy
      subst hy
      by_cases yp:cap=0
      ·subst yp
       obtain rfl:n=0:=by omega
       simp
       exact .oO
      ·obtain rfl:o=x.o+off:=by rcases ho with h|h;exact absurd h yp;exact h
       exact ct.sl ((cv.Vc off).abP _) (.inr rfl) hn
    ·exact h.ext e
   ·rename_i j off
    split
    ·rename_i hj
     obtain⟨rfl,bw,hle⟩:=hj
     obtain⟨y,hy,afd,rfl⟩:=vP g h hl
     rw[hx]at hy
     simp at hy
     subst hy
     exact ct.aL (cv.Vc off) (.inr rfl)
    ·exact h.ext e
   ·exact h.ext e
  ·refine⟨ro,g1,e1,fun u v h=>?_⟩
   subst hc
   unfold fz
   split
   ·rename_i j off n sz
    split
    ·rename_i hj
     obtain⟨rfl,hle⟩:=hj
     rcases vO g h hl with⟨rfl,rfl,hc,-⟩|⟨y,o,cap,hy,-⟩
     ·simp;exact .lB
     ·rw[hv]at hy;simp at hy
    ·exact h.ext e1
   ·rename_i j off
    split
    ·rename_i hj;simp at hj
    ·exact h.ext e1
   ·exact h.ext e1
 obtain⟨aY,g2,e2,ju⟩:=key
 refine⟨aY,_,?_,ju,e2.fg⟩
 refine⟨g2.os,g2.tape,g2.output,g2.size,g2.eW,g2.iN,g2.gW,by simpa using g2.len,g2.cK,g2.inj,fun j r hr=>?_,g2.ext⟩
 rw[apZ]at hr
 cases hq:(rows.set id Row.dead)[j]? with
 |none=>rw[hq]at hr;simp at hr
 |some r0=>
  rw[hq]at hr
  simp at hr
  subst hr
  have h0:=g2.row j r0 hq
  cases r0 with
  |bu=>exact h0
  |dead=>exact h0
  |live ds=>
   have bw:id≠j:=by
    rintro rfl
    rw[aq5 (apN.1 hl).1]at hq
    simp at hq
   rw[ap6 bw]at hq
   rcases g.row j _ hq with⟨y,hy,bA⟩|⟨rfl,hv⟩
   ·refine .inl ⟨y,by rw[ap6 bw];exact hy,?_⟩
    obtain⟨C,t,fr,h1,h2,h3,h4,h5⟩:=bA
    refine⟨C,t,fr,h1,h2,h3,by simpa using h4,fun i v hv=>?_⟩
    rw[apZ]at hv
    cases hd:ds[i]? with
    |none=>rw[hd]at hv;simp at hv
    |some v0=>
     rw[hd]at hv
     simp at hv
     subst hv
     obtain⟨u,hu,hr⟩:=h5 i v0 hd
     exact⟨u,hu,ju u v0 hr⟩
   ·exact .inr ⟨by simp,by rw[ap6 bw];exact hv⟩
end
section
variable {P : Program} {n0 : Nat} {Q : Exit → KS} {s : List V} {rows : List Row}
theorem C6(id:Nat){cs:List V}{code:Code}(hl:rows[id]?=some (.live cs))(hp:bf cs)(h:aS P n0 code Q (s.map (fz id cs)) ((rows.set id .dead).map (im id cs))):aS P n0 code Q s rows:=by
 intro c a w hn hc rd ju
 obtain⟨ro,ρ,g,hs⟩:=hc
 obtain⟨aY,ρ',g',hr,hk⟩:=g.freeze hl hp
 refine h c a w hn ⟨aY,ρ',g',⟨?_,hs.marks.fg hk⟩⟩ rd ju
 refine⟨by simpa using hs.pI.1,fun i u x hu hx=>?_⟩
 rw[apZ]at hx
 cases hq:s[i]? with
 |none=>rw[hq]at hx;simp at hx
 |some v=>
  rw[hq]at hx
  simp at hx
  subst hx
  exact hr u v (hs.pI.2 i u v hu hq)
end
end Go.VS
set_option linter.all false
namespace Go.VS
variable {rd : Option Nat} {b0 : Nat}
def nz:V→V
 |.aj=>.sl 0 []
 |x=>x
def Ax:Row→Row
 |.live ds=>.live (ds.map nz)
 |r=>r
theorem Rd.nz{w:World}{ro:Nat→Prop}{ρ:bP}{u:Value}{v:V}(h:Rd w ro ρ u v):Rd w ro ρ u (nz v):=by
 unfold VS.nz
 split
 ·obtain rfl:=gX h;exact .lB
 ·exact h
theorem Good.nz{c:Ctx}{rows:List Row}{w:World}{ro:Nat→Prop}{ρ:bP}(g:Good c rows w ro ρ):Good c (rows.map Ax) w ro ρ:=by
 refine⟨g.os,g.tape,g.output,g.size,g.eW,g.iN,g.gW,by simpa using g.len,g.cK,g.inj,fun j r hr=>?_,g.ext⟩
 rw[apZ]at hr
 cases hq:rows[j]? with
 |none=>rw[hq]at hr;simp at hr
 |some r0=>
  rw[hq]at hr
  simp at hr
  subst hr
  have h0:=g.row j r0 hq
  cases r0 with
  |bu=>exact h0
  |dead=>exact h0
  |live ds=>
   rcases h0 with⟨y,hy,C,t,fr,h1,h2,h3,h4,h5⟩|⟨rfl,hv⟩
   ·refine .inl ⟨y,hy,C,t,fr,h1,h2,h3,by simpa using h4,fun i v hv=>?_⟩
    rw[apZ]at hv
    cases hd:ds[i]? with
    |none=>rw[hd]at hv;simp at hv
    |some v0=>
     rw[hd]at hv
     simp at hv
     subst hv
     obtain⟨u,hu,hr⟩:=h5 i v0 hd
     exact⟨u,hu,hr.nz⟩
   ·exact .inr ⟨by simp,hv⟩
theorem Qc{P:Program}{n0:Nat}{Q:Exit→KS}{s:List V}{rows:List Row}{code:Code}(h:aS P n0 code Q s (rows.map Ax)):aS P n0 code Q s rows:=by
 intro c a w hn hc rd ju
 obtain⟨ro,ρ,g,hs⟩:=hc
 exact h c a w hn ⟨ro,ρ,g.nz,hs⟩ rd ju
@[simp] theorem abl:toByte∘aF=id:=funext Ip
@[simp high] theorem V8{c:List V}:(V.agg c).Pure↔bf c:=⟨fun h=>by cases h;assumption,fun h=>.agg h⟩
@[simp high] theorem V9{c:List V}:(V.aB c).Pure↔bf c:=⟨fun h=>by cases h;assumption,fun h=>.aB h⟩
@[simp] theorem abm{ex:Bool}{m:List (Option Nat)}{x:V}(h:x.Pure):Ren ex m x x↔True:=iff_true_intro (.pure h)
def tZ(P:Program)(f:FuncId)(args row fh:List V)(r:V):Prop:=cO P f args [.live row] fun r' ad=>r'=r∧ad=[.live fh]
def NR(fh:List V)(ad:List Row):Prop:=
 (∃t,ad=.live fh::t)∨ ∃raw t id cs,ad=.live raw::t∧t[id]?=some (.live cs)∧bf cs∧fh=raw.map (fz (id+1) cs)
theorem sf{id:Nat}{cs:List V}{v:V}(h:v.Pure):fz id cs v=v:=by
 cases h<;>rfl
theorem oQ{rows:List Row}:jl (List.map some []) [] rows:=⟨rfl,fun j j' i _ _ h=>by simp at h,fun j i r h=>by simp at h,fun j r h=>by simp at h⟩
section
variable {P : Program} {f : FuncId} {args row fh : List V} {r : V}
theorem Ta(hr:r.Pure)(hp:bf fh)(h:cO P f args [.live row] fun r' ad=>r'=r∧NR fh ad):tZ P f args row fh r:=by
 refine⟨h.1,fun w ro ρ vs g go ha=>(h.2 w ro ρ vs g go ha).mono ?_⟩
 rintro e w' ⟨v,r',ad,aY,ρ',rfl,⟨rfl,he⟩,g',hv⟩
 have hlen:ρ.length=1:=by simpa using g.len
 have key: ∀{aY ρ' t},Good ⟨w,ro,ρ⟩ (.live fh::t) w' aY ρ'→ ∃ρ'',Good ⟨w,ro,ρ⟩ [.live fh] w' aY ρ'':=by
  intro aY ρ' t g'
  refine⟨_,g'.le (ad:=[.live fh]) (m:=[some 0]) (aZ (by simp) (by simp[ae,hp])) ?_⟩
  intro j hj
  obtain rfl:j=0:=by simp[hlen]at hj;exact hj
  rfl
 rcases he with⟨t,rfl⟩|⟨raw,t,id,cs,rfl,hl,rq,rfl⟩
 ·obtain⟨ρ'',MF⟩:=key g'
  exact⟨v,r',_,_,_,rfl,⟨rfl,rfl⟩,MF,hv.pure hr _⟩
 ·obtain⟨ro2,ρ2,g2,ju,-⟩:=g'.freeze (id:=id+1) (by simpa using hl) rq
  have he:((Row.live raw::t).set (id+1) Row.dead).map (im (id+1) cs)=.live (raw.map (fz (id+1) cs))::(t.set id .dead).map (im (id+1) cs):=by simp[im]
  rw[he]at g2
  obtain⟨ρ'',MF⟩:=key g2
  have:=ju v r' hv
  rw[sf hr]at this
  exact⟨v,r',_,_,_,rfl,⟨rfl,rfl⟩,MF,this.pure hr _⟩
theorem C7{fn:Func}{code:Code}(hf:P.funcs[f]?=some fn)(hb:fn.body=some code)(he:Enters P f)(hr:r.Pure)(hp:bf fh)
  (h:aS P 1 code (bz P fn.results.toList fun r' ad=>r'=r∧NR fh ad) (args++List.replicate (fn.ntmps-args.length) .aa) [.live row]):tZ P f args row fh r:=
 Ta hr hp (jH hf hb he h)
theorem C8{t:List Row}:NR fh (.live fh::t):=.inl ⟨t,rfl⟩
theorem MG{raw:List V}{t:List Row}(id:Nat){cs:List V}(hl:t[id]?=some (.live cs))(hp:bf cs)(e:fh=raw.map (fz (id+1) cs)):NR fh (.live raw::t):=.inr ⟨raw,t,id,cs,rfl,hl,hp,e⟩
theorem C9{gY dG:List V}{rows:List Row}{k:KV}(i:Nat)(hc:tZ P f gY row fh r)(pS:rows[i]?=some (.live row))(hp:bf row)(sI:bf fh)(hr:r.Pure)
  (ha:dI false [some i] gY dG) (hk:k r (rows.set i (.live fh))):oR P f dG rows k:=by
 have aO:i<rows.length:=(apN.1 pS).1
 have hb:behind [i] rows.length [Row.live fh].length=[some i]:=by simp[behind]
 refine⟨[i],gY,[.live row],r,[.live fh],r,rows.set i (.live fh),by simp,aZ (by simp) (by simp[ae,pS,hp]),by simpa using ha,hc,⟨by simp,by simp,?_,?_⟩,.pure hr,hk⟩
 ·rw[hb]
  intro j t r1 hj lD
  match j with
  |0=>
   simp at hj lD
   subst hj;subst lD
   exact⟨.live fh,by simp[aO],by simp[sI]⟩
  |j+1=>simp at hj
 ·intro j hj hn
  rw[ap6 (by simp at hn;omega)]
theorem Qd{cap gY dG:List V}{rows:List Row}{k:KV}(i:Nat)(hc:tZ P f gY row fh r)(pS:rows[i]?=some (.live row))(hp:bf row)(sI:bf fh)(hr:r.Pure)
  (ha:dI false [some i] gY (dG++cap)) (hk:k r (rows.set i (.live fh))):mh P false (.fn (.func f) cap) dG rows k:=
 .inr ⟨rfl,nM (C9 i hc pS hp sI hr ha hk)⟩
theorem wX{rows:List Row}{id off n:Nat}{l m:List UInt8}(h:rows[id]?=some (.live (l.map aF)))(hl:off+n≤l.length)(e:m=(l.drop off).take n):View rows (.av id off n 1) (.sl n (m.map aF)):=by
 subst e
 have:=Iq (rows:=rows) (id:=id) (off:=off) (n:=n) (sz:=1) h (by simpa using hl) (fun x hx=>Lu x (arE (arD hx)))
 simpa using this
@[simp] theorem afe{id:Nat}{cs:List V}:fz id cs∘aF=aF:=rfl
@[simp] theorem ahF{id:Nat}{cs:List V}:fz id cs∘V.str=V.str:=rfl
@[simp] theorem ahG{id:Nat}{cs:List V}{k:IntKind}:fz id cs∘V.int k=V.int k:=rfl
theorem iz{n0:Nat}{Q:Exit→KS}{s s':List V}{rows ad:List Row}{code:Code}(id:Nat){cs:List V}(hl:rows[id]?=some (.live cs))(hp:bf cs)(hs:s.map (fz id cs)=s')(hr:(rows.set id .dead).map (im id cs)=ad)
  (h:aS P n0 code Q s' ad):aS P n0 code Q s rows:=by
 subst hs;subst hr;exact C6 id hl hp h
def Da(P:Program)(f:FuncId)(args row:List V):Prop:=cO P f args [] fun r' ad=>r'=.ref 0 0∧ad=[.live row]
theorem Db{fn:Func}{code:Code}(hf:P.funcs[f]?=some fn)(hb:fn.body=some code)(he:Enters P f)
  (h:aS P 0 code (bz P fn.results.toList fun r' ad=>r'=.ref 0 0∧ad=[.live row]) (args++List.replicate (fn.ntmps-args.length) .aa) []):Da P f args row:=
 jH hf hb he h
theorem NS{dG:List V}{rows:List Row}{k:KV}(hc:Da P f dG row)(hp:bf row)(ha: ∀x∈dG,x.Pure)(hk:k (.ref rows.length 0) (rows++[.live row])):oR P f dG rows k:=by
 have hb:behind [] rows.length [Row.live row].length=[some rows.length]:=by simp[behind]
 refine⟨[],dG,[],.ref 0 0,[.live row],.ref rows.length 0,rows++[.live row],by simp,oQ,gM ha,hc,⟨by simp,by simp,?_,?_⟩,?_,hk⟩
 ·rw[hb]
  intro j t r1 hj lD
  match j with
  |0=>
   simp at hj lD
   subst hj;subst lD
   exact⟨.live row,by simp,by simp[hp]⟩
  |j+1=>simp at hj
 ·intro j hj hn
  rw[ap7 hj]
 ·rw[hb];simp
theorem og{cap dG:List V}{rows:List Row}{k:KV}(hc:Da P f (dG++cap) row)(hp:bf row)(ha: ∀x∈dG++cap,x.Pure)(hk:k (.ref rows.length 0) (rows++[.live row])):mh P false (.fn (.func f) cap) dG rows k:=
 .inr ⟨rfl,nM (NS hc hp ha hk)⟩
end
end Go.VS
set_option linter.all false
namespace Go.VS
def cQ(l:List (List V)):List Row:=l.map Row.live
@[simp] theorem ac2:cQ []=[]:=rfl
@[simp] theorem abR{a:List V}{l:List (List V)}:cQ (a::l)=.live a::cQ l:=rfl
@[simp] theorem X5{l m:List (List V)}:cQ (l++m)=cQ l++cQ m:=by simp[cQ]
@[simp] theorem yI{l:List (List V)}:(cQ l).length=l.length:=by simp[cQ]
def nh:List Row→List Nat→List (List V)→List Row
 |rows,i::m,c::cs=>nh (rows.set i (.live c)) m cs
 |rows,_,_=>rows
@[simp] theorem qo{rows:List Row}{i:Nat}{m:List Nat}{c:List V}{cs:List (List V)}:nh rows (i::m) (c::cs)=nh (rows.set i (.live c)) m cs:=rfl
@[simp] theorem abS{rows:List Row}{cs:List (List V)}:nh rows [] cs=rows:=by cases cs<;>rfl
theorem ia: ∀(m:List Nat) (cs:List (List V)) (rows:List Row),(nh rows m cs).length=rows.length
 |[],_,_=>by simp
 |_::_,[],_=>rfl
 |i::m,c::cs,rows=>by rw[qo,ia m cs];simp
theorem qy: ∀(m:List Nat) (cs:List (List V)) (rows:List Row) (i:Nat),i∉m→(nh rows m cs)[i]?=rows[i]?
 |[],_,_,_,_=>by simp
 |_::_,[],_,_,_=>rfl
 |j::m,c::cs,rows,i,h=>by
  simp at h
  rw[qo,qy m cs _ i h.2,ap6 (by omega)]
theorem rD: ∀(m:List Nat) (cs:List (List V)) (rows:List Row) (j i:Nat) (c:List V),m.Nodup→m[j]?=some i→cs[j]?=some c→i<rows.length→(nh rows m cs)[i]?=some (.live c)
 |[],_,_,j,i,c,_,h,_,_=>by simp at h
 |_::_,[],_,j,i,c,_,_,h,_=>by simp at h
 |t::m,d::cs,rows,0,i,c,hn,h1,h2,h3=>by
  simp at h1 h2 hn
  subst h1;subst h2
  rw[qo,qy m cs _ _ hn.1]
  simp[h3]
 |t::m,d::cs,rows,j+1,i,c,hn,h1,h2,h3=>by
  simp at hn
  rw[qo]
  exact rD m cs _ j i c hn.2 (by simpa using h1) (by simpa using h2) (by simpa using h3)
def ua(M:List (Option Nat)):List (List V)→List (List V)→Prop
 |[],[]=>True
 |x::xs,y::ys=>dI true M x y∧ua M xs ys
 |_,_=>False
@[simp] theorem ac3{M:List (Option Nat)}:ua M [] []↔True:=Iff.rfl
@[simp] theorem abT{M:List (Option Nat)}{x y:List V}{xs ys:List (List V)}:ua M (x::xs) (y::ys)↔dI true M x y∧ua M xs ys:=Iff.rfl
theorem ua.get{M:List (Option Nat)}: ∀{xs ys:List (List V)},ua M xs ys→xs.length=ys.length∧ ∀(i:Nat) x y,xs[i]?=some x→ys[i]?=some y→dI true M x y
 |[],[],_=>⟨rfl,fun i x y h=>by simp at h⟩
 |[],_::_,h=>h.elim
 |_::_,[],h=>h.elim
 |x::xs,y::ys,h=>by
  obtain⟨h1,h2⟩:=ua.get h.2
  refine⟨by simp[h1],fun i a b ha hb=>?_⟩
  cases i with
  |zero=>simp at ha hb;subst ha;subst hb;exact h.1
  |succ i=>exact h2 i a b (by simpa using ha) (by simpa using hb)
theorem aN{ex:Bool}{m:List (Option Nat)}{cs:List V}(h:bf cs):dI ex m cs cs↔True:=iff_true_intro (gM h)
theorem az{ex:Bool}{m:List (Option Nat)}{a b:List V}:nd ex m (.live a) (.live b)↔dI ex m a b:=Iff.rfl
def mi(P:Program)(f:FuncId)(args:List V)(rows ad:List (List V))(r:V):Prop:=cO P f args (cQ rows) fun r' rs=>r'=r∧rs=cQ ad
section
variable {P : Program} {f : FuncId} {args : List V} {rows ad : List (List V)} {r : V}
theorem Tb(h:cO P f args (cQ rows) fun r' rs=>Le rows.length [r'] rs [r] (cQ ad)):mi P f args rows ad r:=by
 refine⟨h.1,fun w ro ρ vs g go ha=>(h.2 w ro ρ vs g go ha).mono ?_⟩
 rintro e w' ⟨v,r',rs,aY,ρ',rfl,⟨m,hr,hm,hn⟩,g',hv⟩
 have hlen:ρ.length=rows.length:=by have:=g.len;simpa using this
 obtain⟨f1,f2⟩:=hm.fwd g'
 exact⟨v,r,_,aY,_,rfl,⟨rfl,rfl⟩,g'.le hm (fun j hj=>hn j (by rw[←hlen];exact hj)),hv.F7 hr.1 f1 f2⟩
theorem eN{fn:Func}{code:Code}(hf:P.funcs[f]?=some fn)(hb:fn.body=some code)(he:Enters P f)
  (h:aS P rows.length code (bz P fn.results.toList fun r' rs=>Le rows.length [r'] rs [r] (cQ ad)) (args++List.replicate (fn.ntmps-args.length) .aa) (cQ rows)):mi P f args rows ad r:=
 Tb (jH hf hb he (by rw[yI];exact h))
theorem NT{dG:List V}{gH:List Row}{k:KV}{news:List (List V)}{rc:V}(m:List Nat)(vQ HK:List (List V))(hc:mi P f args rows (ad++news) r)(j4:m.Nodup)
  (jP:ae (m.map some) gH (m.map some) (cQ rows)) (ha:dI false (m.map some) args dG) (hl:ad.length=m.length) (F8:vQ.length=m.length)
  (iO:ua (behind m gH.length (m.length+news.length)) (ad++news) (vQ++HK)) (hr:Ren true (behind m gH.length (m.length+news.length)) r rc)
  (hk:k rc (nh gH m vQ++cQ HK)):oR P f dG gH k:=by
 have X6:(m.map some).filterMap id=m:=by
  induction m with
  |nil=>rfl
  |cons a m ih=>simp
 obtain⟨g1,g2,-⟩:=iP jP
 obtain⟨o1,o2⟩:=iO.get
 have hlen:(cQ (ad++news)).length=m.length+news.length:=by simp[hl]
 have F9:HK.length=news.length:=by simp[hl,F8]at o1;omega
 have aO: ∀(j i:Nat),m[j]?=some i→i<gH.length:=by
  intro j i hj
  have sL:j<m.length:=(apN.1 hj).1
  obtain⟨r0,vR⟩:=aC (l:=cQ rows) (i:=j) (by rw[g1];simpa using sL)
  obtain⟨r2,j2,-⟩:=g2 j i r0 (by simp[hj]) vR
  exact(apN.1 j2).1
 refine⟨m,args,cQ rows,r,cQ (ad++news),rc,_,j4,aZ (by rw[X6];exact j4) jP,ha,hc,⟨by rw[hlen];omega,by rw[hlen];simp[ia,F9],?_,?_⟩,by rw[hlen];exact hr,hk⟩
 ·rw[hlen]
  intro j i q hj hq
  obtain⟨x,hx,rfl⟩: ∃x,(ad++news)[j]?=some x∧q=.live x:=by
   rw[cQ,apZ]at hq
   cases hz:(ad++news)[j]? with
   |none=>rw[hz]at hq;simp at hq
   |some x=>rw[hz]at hq;simp at hq;exact⟨x,rfl,hq.symm⟩
  have sL:=(apN.1 hx).1
  obtain⟨y,hy⟩:=aC (l:=vQ++HK) (i:=j) (by rw[←o1];exact sL)
  refine⟨.live y,?_,o2 j x y hx hy⟩
  rw[oS]at hj
  split at hj
  ·rename_i MH
   have ub:m[j]?=some i:=by simpa using hj
   rw[ap7 (by rw[ia];exact aO j i ub)]
   rw[ap7 (by omega)]at hy
   exact rD m vQ gH j i y j4 ub hy (aO j i ub)
  ·split at hj
   ·simp at hj
    subst hj
    rw[aqL (by rw[ia];omega),ia]
    rw[aqL (by omega),F8]at hy
    rw[cQ,apZ,show gH.length+(j-m.length)-gH.length=j-m.length by omega,hy];rfl
   ·simp at hj
 ·intro i hi hn
  rw[ap7 (by rw[ia];exact hi),qy m vQ gH i hn]
end
theorem fW{P:Program}{n0:Nat}{Q:Exit→KS}{s:List V}{rows ad:List Row}{code:Code}(e:rows=ad)(h:aS P n0 code Q s ad):aS P n0 code Q s rows:=by subst e;exact h
section
variable {P : Program} {t d : Nat}
theorem yJ{e:Nat}(h:bt P t=some e):P.underlying t=some (.slice e):=by
 unfold bt at h
 split at h
 ·rename_i e' hu;cases h;exact hu
 ·cases h
theorem sM{e:Nat}(h:bt P t=some e):dH P (d+1) t .aj .aj=some true:=by simp[dH,yJ h]
theorem ni{e n:Nat}{c:List V}(h:bt P t=some e):dH P (d+1) t (.sl (n+1) c) .aj=some false:=by simp[dH,yJ h]
end
end Go.VS
set_option linter.all false
namespace Go.VS
def Y0:=@S9
def Y1:=@yF
def Y2:=@yG
def Y3:=@dn
def Y4:=@Ci
def Y5:=@Cj
def Y6:=@ed
def Y7:=@yK
def Y8:=@b8
def Y9:=@dg
def Ya:=@ue
def Yb:=@nS
def Yc:=@wY
def Yd:=@Cn
def Ye:=@pT
def Yf:=@C4
def Yg:=@ME
def Yh:=@dX
def Yi:=@Cl
def Yj:=@Cm
def Yk:=@ky
def XL:=And.intro (@aqp) (And.intro (@List.cons_append) (And.intro (@List.nil_append) (And.intro (@apS) (@aqh))))
def X0:=And.intro (@Im) (And.intro (@NO) (And.intro (@F5) (And.intro (@Bu) (And.intro (@F6) (And.intro (@yo) (@C2))))))
def X7:=And.intro (@wrap_i64) (And.intro (@wrap_u8) (And.intro (@wrap_u32) (And.intro (@wrap_u64) (And.intro (@Int.tmod_eq_emod_of_nonneg) (@Int.tdiv_eq_ediv_of_nonneg)))))
def zJ:Nat→List V|0=> []|n+1=>.aa::zJ n
def zN:Nat→List (Option V)→List (Option V)|0,l=>l|n+1,l=>none::zN n l
def zS:Nat→List (Option V)→List (Option V)|0,l=>l|n+1,l=>some .aa::zS n l
theorem Ys{P:Program}{ops:Array Oper}{K:KS}{os:List Oper}{s s':List V}{rows:List Row}(h:bj P ops os s' rows K)(e:s=s':=by first|(dsimp only[aD,sset];done)|rfl):bj P ops os s rows K:=NP e h
theorem Yt{P:Program}{ops:Array Oper}{F:List (Nat×Nat×V)}{K:KS}{os:List Oper}{ms yH:List Nat}{id:Nat}{s s':List V}{rows:List Row}(h:au P ops F yH os id s' rows K)(e:s=s':=by first|(dsimp only[aD,sset];done)|rfl)(em:ms=yH:=by first|(dsimp only[List.tail];done)|rfl):au P ops F ms os id s rows K:=sK e em h
theorem Yr{n0:Nat}{s s':List V}{rows ad:List Row}(m:List (Option Nat))(hr:ae m rows m ad)(h:dI false m s' s:=by first|(simp;done)|(dsimp only[aE,zN,zS];simp;done)|(dsimp only[aE,zN,zS];simp;omega))(hm:(m.filterMap id).Nodup:=by simp)(hn: ∀j,j<n0→m[j]?=some (some j):=by simp):Le n0 s rows s' ad:=Le.mk m h (aZ hm hr) hn
theorem Yv{n0:Nat}{s s':List V}{rows ad:List Row}(m:List (Option Nat))(hr:ae m rows m ad:=by simp[ae,az,aN])(h:dI false m s' s:=by first|(simp;done)|(dsimp only[aE,zN,zS];simp;done)|(dsimp only[aE,zN,zS];simp;omega))(hm:(m.filterMap id).Nodup:=by simp)(hn: ∀j,j<n0→m[j]?=some (some j):=by simp):Le n0 s rows s' ad:=Le.mk m h (aZ hm hr) hn
theorem dd{p:Prop}(h:p:=by first|(simp;done)|omega|(simp;omega)):p:=h
theorem de{p:Prop}(h:p:=by first|omega|(simp;omega)):p:=h
theorem dc{p:Prop}(h:p:=by first|contradiction|(exfalso;omega)):p:=h
theorem Ap{P:Program}{draw:Bool}{f:FuncId}{cap args:List V}{r:V}{rows:List Row}{k:KV}(h:ao P f (args++cap) r)(hk:k r rows)(hp: ∀x∈args++cap,x.Pure:=by simp):mh P draw (.fn (.func f) cap) args rows k:=NU h hp hk
theorem Yz{a b:Prop}(hb:b)(ha:a:=by first|omega|(simp;first|done|omega)|assumption|(intro e9;have e8:=congrArg List.length e9;first|(simp at e8;done)|((try simp only[aqz,aqa]at e8);rw[aqh]at e8;omega))):a∧b:=⟨ha,hb⟩
structure Wq (q : Prop) : Prop where h : q
def Zj:=@And.intro
theorem XH{P:Program}{n0:Nat}{Q:Exit→KS}{s:List V}{rows:List Row}{x y:Code}(h:aS P n0 x (cZ (aS P n0 y Q) Q) s rows):aS P n0 (.seq x y) Q s rows:=b8 fun K hK=>wZ h fun e s rows he=>by cases e<;>first|exact hK _ _ he|exact he
theorem A0{K:KS}{Q:Exit→KS}{s:List V}{rows:List Row}(h:K s rows):cZ K Q .normal s rows:=h
theorem A1{K:KS}{Q:Exit→KS}{s:List V}{rows:List Row}{i:Nat}(h:Q (.exit i) s rows):cZ K Q (.exit i) s rows:=h
theorem A2{K:KS}{Q:Exit→KS}{s:List V}{rows:List Row}(h:Q .ret s rows):cZ K Q .ret s rows:=h
theorem A3{Q:Exit→KS}{s:List V}{rows:List Row}{j:Nat}(h:Q .normal s rows):jv j Q (.exit j) s rows:=by rw[Bu];exact h
theorem A4{Q:Exit→KS}{s:List V}{rows:List Row}{i j:Nat}(e:(i==j)=false)(h:Q (.exit i) s rows):jv j Q (.exit i) s rows:=by rw[F6 e];exact h
theorem A5{Q:Exit→KS}{s:List V}{rows:List Row}{j:Nat}(h:Q .normal s rows):jv j Q .normal s rows:=by rw[yo];exact h
theorem A6{Q:Exit→KS}{s:List V}{rows:List Row}{j:Nat}(h:Q .ret s rows):jv j Q .ret s rows:=by rw[C2];exact h
theorem Zc{p r q:Prop}(hr:r)(h:q)(t:Wq r→Wq q→p:=by intro a b;first|exact Ap a.1 b.1|exact⟨_,a.1,b.1⟩|fail):p:=t ⟨hr⟩ ⟨h⟩
theorem Zt{p q:Prop}(h:q)(t:Wq q→p:=by intro h;first|exact Y6 h.1|exact Y7 h.1|exact Y9 h.1|with_reducible exact A0 h.1|exact XH h.1|exact Ya h.1|exact Yc h.1|exact Ye (Yf h.1)|exact Yg h.1|exact Yd h.1|exact A3 h.1|exact A4 rfl h.1|exact A5 h.1|exact A1 h.1|exact A2 h.1|exact A6 h.1|fail):p:=t ⟨h⟩
theorem Zu{p q:Prop}(h:q)(t:Wq q→p:=by intro h;first|exact Y0 rfl h.1|exact Y1 rfl rfl h.1|exact Y2 rfl rfl h.1|fail):p:=t ⟨h⟩
theorem Zv{p r q:Prop}(hr:r)(h:q)(t:Wq r→Wq q→p:=by intro a b;first|exact Y3 a.1 b.1|exact Y4 rfl a.1 b.1|exact Y5 rfl a.1 b.1|fail):p:=t ⟨hr⟩ ⟨h⟩
theorem Zn{p r q:Prop}(hr:r)(h:q)(t:Wq r→Wq q→p:=by intro a b;first|exact Yh a.1 b.1|exact Yi rfl a.1 b.1|exact Yj rfl a.1 b.1|fail):p:=t ⟨hr⟩ ⟨h⟩
theorem Zs{p q:Prop}(h:q)(t:Wq q→p:=by intro h;first|exact Ys h.1|exact Yt h.1|fail):p:=t ⟨h⟩
theorem Zf{p r q:Prop}(hr:r)(h:q)(t:Wq r→Wq q→p:=by intro a b;(repeat(refine Yz ?_));first|exact a.1 _ _ (Ys b.1)|exact a.1 _ _ (Yt b.1)|fail):p:=t ⟨hr⟩ ⟨h⟩
theorem Zm{p q:Prop}(h:q)(t:Wq q→p:=by intro h;(try simp(disch:=first|exact de|fail) only[X7]);first|exact h.1|fail):p:=t ⟨h⟩
theorem Zd{p q:Prop}(h:q)(t:Wq q→p:=by intro h;simp(disch:=first|exact dd|fail);(try simp(disch:=first|exact de|fail) only[X7]);first|exact h.1|fail):p:=t ⟨h⟩
theorem Zq{p q:Prop}(h:q)(t:Wq q→p:=by intro h;refine Zu ?_;intro K9 h9;refine Zd ?_;refine Zf h9 ?_;first|exact h.1|fail):p:=t ⟨h⟩
theorem Zr{p q:Prop}(h:q)(t:Wq q→p:=by intro h;(first|refine Zu ?_|(refine Zv ?_ ?_;(focus (simp;done))));intro K9 h9;refine Zd ?_;refine Zf h9 ?_;first|exact h.1|fail):p:=t ⟨h⟩
theorem Zo{p q:Prop}(h:q)(t:Wq q→p:=by intro h;refine Zn ?_ ?_;(focus (simp;done));refine Zs ?_;first|exact h.1|fail):p:=t ⟨h⟩
theorem Z0{p r q:Prop}(hr:r)(h:q)(t:Wq r→Wq q→p:=by intro a b;refine Zu ?_;intro K9 h9;simp(disch:=first|exact dd|fail) [a.1];refine Zm ?_;refine Zf h9 ?_;first|exact b.1|fail):p:=t ⟨hr⟩ ⟨h⟩
theorem Z1{p r r2 q:Prop}(hr:r)(j2:r2)(h:q)(t:Wq r→Wq r2→Wq q→p:=by intro a b c;refine Zu ?_;intro K9 h9;simp(disch:=first|exact dd|fail) [a.1];refine Zm ?_;(first|refine Zc b.1 ?_|refine Zc b.1.1 ?_|refine Zc b.1.2 ?_|refine Zc b.1.2.1 ?_|refine Zc b.1.2.2 ?_|refine Zc b.1.2.2.1 ?_|refine Zc b.1.2.2.2 ?_|skip)<;>(refine Zf h9 ?_;first|exact c.1|fail)):p:=t ⟨hr⟩ ⟨j2⟩ ⟨h⟩
theorem Z2{p r q:Prop}(hr:r)(h:q)(t:Wq r→Wq q→p:=by intro a b;refine Zu ?_;intro K9 h9;refine Zd ?_;(first|refine Zc a.1 ?_|refine Zc a.1.1 ?_|refine Zc a.1.2 ?_|refine Zc a.1.2.1 ?_|refine Zc a.1.2.2 ?_|refine Zc a.1.2.2.1 ?_|refine Zc a.1.2.2.2 ?_|skip)<;>(refine Zf h9 ?_;first|exact b.1|fail)):p:=t ⟨hr⟩ ⟨h⟩
theorem Z3{p r q:Prop}(hr:r)(h:q)(t:Wq r→Wq q→p:=by intro a b;(first|refine Zu ?_|(refine Zv ?_ ?_;(focus (simp[a.1];done))));intro K9 h9;simp(disch:=first|exact dd|fail) [a.1];refine Zm ?_;refine Zf h9 ?_;first|exact b.1|fail):p:=t ⟨hr⟩ ⟨h⟩
theorem Z4{p r r2 q:Prop}(hr:r)(j2:r2)(h:q)(t:Wq r→Wq r2→Wq q→p:=by intro a b c;(first|refine Zu ?_|(refine Zv ?_ ?_;(focus (simp[a.1];done))));intro K9 h9;simp(disch:=first|exact dd|fail) [a.1];refine Zm ?_;(first|refine Zc b.1 ?_|refine Zc b.1.1 ?_|refine Zc b.1.2 ?_|refine Zc b.1.2.1 ?_|refine Zc b.1.2.2 ?_|refine Zc b.1.2.2.1 ?_|refine Zc b.1.2.2.2 ?_|skip)<;>(refine Zf h9 ?_;first|exact c.1|fail)):p:=t ⟨hr⟩ ⟨j2⟩ ⟨h⟩
theorem Z5{p r q:Prop}(hr:r)(h:q)(t:Wq r→Wq q→p:=by intro a b;(first|refine Zu ?_|(refine Zv ?_ ?_;(focus (simp;done))));intro K9 h9;refine Zd ?_;(first|refine Zc a.1 ?_|refine Zc a.1.1 ?_|refine Zc a.1.2 ?_|refine Zc a.1.2.1 ?_|refine Zc a.1.2.2 ?_|refine Zc a.1.2.2.1 ?_|refine Zc a.1.2.2.2 ?_|skip)<;>(refine Zf h9 ?_;first|exact b.1|fail)):p:=t ⟨hr⟩ ⟨h⟩
theorem Z6{p r q:Prop}(hr:r)(h:q)(t:Wq r→Wq q→p:=by intro a b;refine Zn ?_ ?_;(focus (simp[a.1];done));refine Zs ?_;first|exact b.1|fail):p:=t ⟨hr⟩ ⟨h⟩
theorem Zx{p q:Prop}(h:q)(t:Wq q→p:=by intro h;first|exact Yg h.1|(simp only[X0,Nat.reduceBEq];exact h.1)|fail):p:=t ⟨h⟩
theorem Zl{p q:Prop}(h:q)(t:Wq q→p:=by intro h;simp only[List.replicate,XL];first|exact h.1|fail):p:=t ⟨h⟩
theorem Zk{P:Program}{n0:Nat}{Q:Exit→KS}{s:List V}{rows:List Row}{id:Nat}{ops:Array Oper}(m:Nat)(ms:List Nat)(h:au P ops [] ms ops.toList rows.length s (rows++List.replicate m .bu) (Q .normal))(hn:ez ops=m:=by decide+kernel)(hm:P.follows .mixedOrders=true:=by kernel_rfl)(hi:indep (ef ms) ops=true:=by decide+kernel):aS P n0 (.region id ops true) Q s rows:=ky hn ms hm hi h
end Go.VS
