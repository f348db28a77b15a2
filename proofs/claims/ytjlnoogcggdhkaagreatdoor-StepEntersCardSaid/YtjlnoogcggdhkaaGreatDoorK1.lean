/-
 CONTRACTS OF SHAPES: the shapes; what was proved by walks.
 Conditions: none.
-/
import Derived.Test.YtjlnoogcggdhkaaGreatDoorHn
import Derived.Test.YtjlnoogcggdhkaaGreatDoorIe
import Derived.Test.YtjlnoogcggdhkaaGreatDoorW9
set_option maxRecDepth 100000
set_option maxHeartbeats 32000000
set_option linter.all false
namespace Go.Ck
open Go.VS
variable [eb]
theorem pF{P:Program}{e:fu}(hr:e.rows=[])(jU:e.ad=[])(h: ∀args,bg [0] e.args args→EP P e.f args (Has [0] e.res)):e.Ok P:=by
 intro args rws ha hw
 rw[hr]at hw
 obtain rfl:=apW hw.1.symm
 rw[jU]
 refine cO.mono (EP.eg (h args ha)) fun r rs ⟨ad,hR,hp,hl,hq⟩=>⟨ad,⟨hR,?_,?_⟩,hp,hl,hq⟩
 ·exact hl.symm
 ·intro i t v a b;simp at a
theorem u6{a:T}{args:List V}(h:bg [0] [a] args): ∃x,args=[x]∧Has [0] a x:=by
 match args,h with
 |[x],h=>exact⟨x,rfl,h.2 0 a x rfl rfl⟩
 |[],h=>exact absurd h.1 (by simp)
 |_::_::_,h=>exact absurd h.1 (by simp)
theorem VP{a b:T}{args:List V}(h:bg [0] [a,b] args): ∃x y,args=[x,y]∧Has [0] a x∧Has [0] b y:=by
 match args,h with
 |[x,y],h=>exact⟨x,y,rfl,h.2 0 a x rfl rfl,h.2 1 b y rfl rfl⟩
 |[],h=>exact absurd h.1 (by simp)
 |[_],h=>exact absurd h.1 (by simp)
 |_::_::_::_,h=>exact absurd h.1 (by simp)
theorem cN{lo hi:Int}{x:V}(h:Has [0] (.str (.aR lo hi)) x): ∃s,x=.str s∧lo≤(s.length:Int)∧(s.length:Int)≤hi:=by
 cases h with
 |str p=>exact⟨_,rfl,p.1,p.2⟩
theorem cW{k:IntKind}{lo hi:Int}{x:V}(h:Has [0] (.int k (.aR lo hi)) x): ∃n,x=.int k n∧lo≤n∧n≤hi:=by
 cases h with
 |int p=>exact⟨_,rfl,p.1,p.2⟩
theorem bI{θ:List Int}{t:T}{ts:List T}{v:V}{vs:List V}(h:Has θ t v)(h2:bg θ ts vs):bg θ (t::ts) (v::vs):=⟨by simp[h2.1],fun i a b ha hb=>by
 cases i with
 |zero=>simp at ha hb;subst ha;subst hb;exact h
 |succ i=>exact h2.2 i a b (by simpa using ha) (by simpa using hb)⟩
theorem eJ{θ:List Int}:bg θ [] []:=⟨rfl,fun i a b h=>by simp at h⟩
theorem bg.aB{θ:List Int}{ts:List T}{vs:List V}(h:bg θ ts vs):Has θ (.aB ts) (.aB vs):=.aB h.1 h.2
theorem bg.agg{θ:List Int}{ts:List T}{vs:List V}(h:bg θ ts vs):Has θ (.agg ts) (.agg vs):=.agg h.1 h.2
theorem Has.pA{θ:List Int}{lo hi:Int}{s:List UInt8}(h1:lo≤(s.length:Int))(h2:(s.length:Int)≤hi):Has θ (.str (.aR lo hi)) (.str s):=.str ⟨h1,h2⟩
theorem Has.tN{θ:List Int}{k:IntKind}{lo hi n:Int}(h1:lo≤n)(h2:n≤hi):Has θ (.int k (.aR lo hi)) (.int k n):=.int ⟨h1,h2⟩
theorem Has.CX{θ:List Int}{k:IntKind}{n:Int}:Has θ (.int k .top) (.int k n):=.int trivial
theorem Has.Po{θ:List Int}{b:Bool}:Has θ (.bool none [] []) (.bool b):=.bool (fun c h=>by cases h) (fun _ f h=>by simp at h) (fun _ f h=>by simp at h)
end Go.Ck
namespace Go.Proofs.YtjlnoogcggdhkaaGreatDoor
open Go.Proofs.Tryz
open Go Go.VS Go.Ck Go.Wk Go.Stp
variable [eb]
noncomputable def NC:Nat:=140
noncomputable def Lf:Nat:=135
noncomputable def H5:Nat:=44
noncomputable def aba:Nat:=202
noncomputable def H6:Nat:=46
noncomputable def agE:Nat:=152
noncomputable def abb:Nat:=72
noncomputable def V3:Nat:=57
noncomputable def U0:Nat:=105
noncomputable def agF:Nat:=103
noncomputable def Lg:Nat:=70
noncomputable def agG:Nat:=40
noncomputable def slB(e:Nat):Int:=if e=agG then 131072 else if e=U0 then 131072 else if e=agF then 131072 else if e=Lg then 131072 else 100000000
noncomputable def acS:Nat:=5
noncomputable def acT:Nat:=5+1
noncomputable def oI(P:Program):Nat→TypeId→List T
 |0,_=> [.any]
 |n+1,t=>match P.underlying t with
  |some (.int k)=>if t=abb then[.int k .top]else[.int k (.aR k.min k.max)]
  |some .string=> [.str (.aR 0 100000000)]
  |some .bool=> [.bool none [] []]
  |some (.slice e)=> [.sl (.aR 0 (slB e)) (oI P n e)]
  |some (.struct fs)=>if t=V3 then[.sl (.aR 0 140737488355328) [.int .i64 (.aR (-9223372036854775808) 9223372036854775807)],.int .i64 (.aR 0 140737488355328)]else if t=NC then[.sl (.aR 0 131072) (oI P n Lf),.int .i64 (.aR 0 100000000)]else if t=Lf then[.int .i64 (.aR 0 255),.str (.aR 0 131072),.str (.aR 0 100000000)]else if t=U0 then(fs.toList.flatMap fun f=>oI P n f.type).set 2 (.str (.aR 0 131072))else if t=Lg then(fs.toList.flatMap fun f=>oI P n f.type).set 1 (.str (.aR 0 131072))else fs.toList.flatMap fun f=>oI P n f.type
  |some (.array k e)=>(List.replicate k (oI P n e)).flatten
  |_=> [.any]
noncomputable def Ao(P:Program):Nat→TypeId→List T
 |0,_=> [.any]
 |n+1,t=>match P.underlying t with
  |some (.slice e)=> [.sl (.aR 0 (slB e)) (Ao P n e)]
  |some (.struct fs)=>if t=U0 then oI P 12 t else if t=Lg then oI P 12 t else if t=H5 then((fs.toList.flatMap fun f=>Ao P n f.type).set 3 (.int .i64 (.aR 0 511))).set 18 (.sl (.aR 0 1000) (oI P 12 agE))else if t=aba then(fs.toList.flatMap fun f=>Ao P n f.type).set 1 (.int .i64 (.aR 0 511))else if t=H6 then((fs.toList.flatMap fun f=>Ao P n f.type).set acS (.int .i64 (.aR 0 3000))).set acT (.int .i64 (.aR 0 3000))else fs.toList.flatMap fun f=>Ao P n f.type
  |_=>oI P 12 t
noncomputable def agH(P:Program)(t:TypeId):T:=match p9 P t with
 |some true=>.agg (Ao P 12 t)
 |_=>(Ao P 12 t).headD .any
noncomputable def tyV(P:Program)(t:TypeId):T:=match p9 P t with
 |some true=>.agg (oI P 12 t)
 |_=>(oI P 12 t).headD .any
noncomputable def auto(P:Program)(f:FuncId):fu:=
 match P.funcs[f]? with
 |some fn=>
  let ps:=fn.params.toList.foldl (fun(acc:List T×List (List T)) t=>match P.underlying t with
   |some (.pointer e)=>(acc.1++[.ref acc.2.length 0],acc.2++[oI P 12 e])
   |_=>(acc.1++[tyV P t],acc.2)) ([],[])
  ⟨f,ps.1,ps.2,(match fn.resultTypes.toList.map (tyV P)with|[t]=>t|l=>.aB l),ps.2,0⟩
 |none=>⟨f,[],[],.any,[],0⟩
noncomputable def ES(P:Program)(f:FuncId):fu:=
 match P.funcs[f]? with
 |some fn=>{auto P f with args:=fn.params.toList.map (agH P)}
 |none=>auto P f
noncomputable def D:Int:=100000000
noncomputable def big:Int:=500000000000000000
noncomputable def sD:T:=.str (.aR 0 D)
noncomputable def iA:T:=.int .i64 (.aR (-9223372036854775808) 9223372036854775807)
noncomputable def eA:T:=.int .i64 .top
noncomputable def CY:List T:=[iA,.sl (.aR 0 16) [.str (.aR 0 big)]]
noncomputable def agI(f:Nat):List fu:=(List.range 19).reverse.map fun(k:Nat)=>⟨f,[.int .i64 (.aR (-9223372036854775808) (if k=18 then 9223372036854775807 else((10^(k+1)-1:Nat):Int)))],[],.str (.aR 1 ((k+1:Nat):Int)),[],0⟩
noncomputable def SP:T:=.agg [.int .i64 (.aR 0 255),.str (.aR 0 131072),sD]
noncomputable def Xu(P:Program):List T:=oI P 12 NC
noncomputable def abc(S:St):St:=
 let e:=match bN S.S 0 with|.sl _ e=>e|_=> []
 ⟨S.ng+4,[⟨0,1,9,0⟩,⟨9,1,1,0⟩,⟨0,1,10,0⟩,⟨10,131072,9,0⟩,⟨0,1,11,0⟩,⟨11,131072,9,0⟩,⟨0,1,12,0⟩,⟨12,1,9,0⟩]++S.F,⟨S.S.length,[(0,bN S.S 0),(2,.ref 1 0),(3,bN S.S 3),(4,.ref 0 0),(16,bN S.S 16),(17,bN S.S 17),(18,.int .i64 (.aH 9 0))],S.S.ex⟩,
  [.cells ((((oI prog 12 H5).set 5 (.av 2 (.aH 10 0) 1)).set 6 (.av 3 (.aH 11 0) 2)).set 18 (.av 4 (.aH 12 0) 3)),.cells (oI prog 12 H5),.arr (.aH 10 0) [sD],.arr (.aH 11 0) [sD,sD],.arr (.aH 12 0) e]⟩
noncomputable def lA(P:Program):List T:=oI P 12 V3
noncomputable def nmC(P:Program):T:=(oI P 12 Lg).getD 2 .any
noncomputable def abd:Nat→List fu
 |79=> [⟨79,CY,[],sD,[],0⟩]
 |78=> [⟨78,CY,[],.aB [sD,eA],[],0⟩]
 |124=> [⟨124,CY,[],.aB [sD,eA],[],0⟩]
 |63=>agI 63
 |123=> [⟨123,[.int .i64 (.aR 0 99),.int .i64 (.aR 2 2)],[],.str (.aR 0 40),[],0⟩,⟨123,[.int .i64 (.aR 0 9999),.int .i64 (.aR 4 4)],[],.str (.aR 0 40),[],0⟩]
 |177=> [⟨177,[iA,.int .i64 (.aR 0 511)],[],sD,[],0⟩]
 |213=> [⟨213,[.int .i64 (.aR 0 511)],[],.aB [.str (.aR 0 3),eA],[],0⟩]
 |180=> [ES prog 180]
 |126=> [{ES prog 126 with un:={rounds:=0,hs:=[(99999,2,0)]}}]
 |77=> [ES prog 77]
 |42=> [ES prog 42]
 |14=> [ES prog 14]
 |141=> [⟨141,[sD],[],.aB [sD,.int .i64 (.aR 0 7),eA],[],0⟩]
 |282=> [⟨282,[sD],[],.aB [iA,eA],[],0⟩]
 |183=> [⟨183,[sD],[],.aB [SP,sD,eA],[],0⟩]
 |211=> [⟨211,[SP,.int .i64 (.aR 0 15)],[],eA,[],0⟩]
 |253=> [⟨253,[sD],[],.bool none [] [],[],0⟩]
 |250=> [⟨250,[sD],[],.bool none [] [],[],0⟩]
 |190=> [{auto prog 190 with un:={rounds:=0,each:=true,head:=some abc}}]
 |125=> [{auto prog 125 with res:=.str (.aR 0 400000000)}]
 |89=> [⟨89,[.aL (Xu prog)],[],eA,[],0⟩]
 |175=> [⟨175,[iA,.int .i64 (.aR 1 12)],[],.int .i64 (.aR 28 31),[],0⟩]
 |261=> [⟨261,[sD,.int .i64 (.aR 1 1)],[],.aB [.sl (.aR 0 131072) [.sl (.aR 1 1) [sD]],eA],[],2004⟩,⟨261,[sD,.int .i64 (.aR 2 2)],[],.aB [.sl (.aR 0 131072) [.sl (.aR 2 2) [sD]],eA],[],2004⟩]
 |178=> [{auto prog 178 with res:=.aB [.str (.aR 0 20000000000000000),eA]}]
 |122=> [⟨122,[.int .i64 (.aR 0 3000)],[],.aB [.agg [.int .i64 (.aR 0 9999),.int .i64 (.aR 0 99),.int .i64 (.aR 0 99),.int .i64 (.aR 0 99),.int .i64 (.aR 0 99),.int .i64 (.aR 0 99)],eA],[],0⟩]
 |75=> [⟨75,[.int .i64 (.aR 0 3000)],[],.aB [sD,eA],[],0⟩]
 |216=> [{auto prog 216 with res:=.str (.aR 0 20000000000000000)}]
 |128=> [⟨128,[iA],[],.str (.aR 0 8),[],1010⟩]
 |174=> [⟨174,[.int .i64 (.aR 1951 1951)],[],.int .i64 (.aR 365 365),[],0⟩,⟨174,[.int .i64 (.aR 1950 1950)],[],.int .i64 (.aR 0 0),[],0⟩,auto prog 174]
 |280=> [⟨280,[sD,.int .u8 .top],[],.sl (.aR 0 200000000) [.str (.aR 0 100000001)],[],1000⟩]
 |191=> [{auto prog 191 with args:=[.str (.aR 0 131072)],un:={rounds:=0,hs:=[(4,20,8),(99999,2147483727,0)]}}]
 |184=> [⟨184,[.str (.aR 0 131072)],[],.aB [.sl (.aR 0 131072) (oI prog 12 Lf),eA],[],0⟩]
 |263=> [{auto prog 263 with args:=[.str (.aR 0 131072)]}]
 |287=> [{auto prog 287 with args:=[.str (.aR 0 131072)]}]
 |120=> [{auto prog 120 with res:=.str (.aR 0 20000000000000000)}]
 |182=> [{auto prog 182 with un:=10}]
 |209=> [⟨209,[sD],[],.alt (.aB [.sl (.aR 2 12) [.int .i64 (.aR 0 2147483647)],.bool (some true) [] []]) (.aB [.aj,.bool (some false) [] []]),[],{rounds:=11,pre:=true,hs:=[(99999,12,0)]}⟩]
 |7=> [2,3,4,5,6,7,8,12,14,15,16].map fun(n:Int)=>⟨7,[.ref 0 0,.int .i64 (.aR n n)],[lA prog],.int .i64 (.aR 0 (n-1)),[lA prog],0⟩
 |51=> [{auto prog 51 with un:=2004}]
 |13=> [{auto prog 13 with un:=6}]
 |5=> [{auto prog 5 with un:={rounds:=0,each:=true}}]
 |8=> [{auto prog 8 with res:=(match(auto prog 8).res with|.agg l=>.agg (l.set 0 (.int .i64 (.aR 2000 2000)))|t=>t)}]
 |39=> [⟨39,[.int .i64 (.aR 0 7)],[],.int .i64 (.aR 0 15),[],0⟩]
 |50=> [⟨50,[.int .i64 (.aR 0 8)],[],sD,[],0⟩]
 |34=> [⟨34,[.int .i64 (.aR 0 15)],[],.agg [nmC prog],[],{rounds:=0,each:=true}⟩]
 |142=> [⟨142,[.int .i64 (.aR 0 2)],[],.agg (oI prog 12 Lg),[],0⟩]
 |40=> [⟨40,[.int .i64 (.aR 0 7)],[],.agg [iA,sD,sD],[],0⟩]
 |12=> [⟨12,[.int .i64 (.aR 0 7)],[],.agg [nmC prog,iA,sD,sD],[],0⟩]
 |47=> [⟨47,[.ref 0 0],[lA prog],.aB [.int .i64 (.aR 0 3000),.int .i64 (.aR 0 3000)],[lA prog],0⟩]
 |18=> [⟨18,[.ref 0 0,.int .i64 (.aR 3 3)],[lA prog],.sl (.aR 0 100000000) [sD],[lA prog],6⟩]
 |90=> [⟨90,[.ref 0 0,.int .i64 (.aR 3 3)],[lA prog],.sl (.aR 0 4) [sD,sD],[lA prog],6⟩]
 |91=> [⟨91,[.ref 0 0],[lA prog],(Ao prog 12 H5).getD 16 .any,[lA prog],6⟩]
 |48=> [⟨48,[.ref 0 0,.ref 1 10],[lA prog,Ao prog 12 H6],.aB [],[lA prog,Ao prog 12 H6],{rounds:=6,each:=true}⟩]
 |15=> [⟨15,[.ref 0 0,.int .i64 (.aR 0 7),.int .i64 (.aR 0 7),.bool none [] []],[lA prog],.agg (Ao prog 12 H6),[lA prog],0⟩]
 |_=> []
noncomputable def agJ:Nat→Option Un
 |46=>some 0
 |_=>none
noncomputable def agK:Nat→Option Un
 |225=>some {rounds:=0,hs:=[(99998,0,0)]}
 |_=>none
noncomputable def agL:Nat:=1
noncomputable def E(f:Nat):List fu:=match abd f with|[]=> [auto prog f]|l=>l
noncomputable def EC(f:Nat):List fu:=match abd f with|[]=> [auto prog f]|l=>if l.length≤10 then l else l.reverse
noncomputable def acU(L:List fu):Env:=HS prog L agJ agK agL
noncomputable def H7(L:List fu):List fu→Bool
 |[]=>true
 |e::l=>HR prog (acU (l++L)) e&&H7 L l
theorem Lh{L:List fu}(h:xq.Ok prog L): ∀{l:List fu},H7 L l=true→xq.Ok prog l
 |[],_,e,he=>by simp at he
 |a::l,hc,e,he=>by
  simp only[H7,apP]at hc
  have hl:=Lh h hc.2
  rcases ap8.1 he with rfl|he
  ·exact Ja (Cw (fun x hx=>(aqr.1 hx).elim (hl x) (h x)) _) hc.1
  ·exact hl e he
def bd(f:Nat):Prop:=xq.Ok prog (E f)
def SQ:List Nat→Prop
 |[]=>True
 |f::l=>bd f∧SQ l
theorem SQ.xh: ∀{l:List Nat},SQ l→xq.Ok prog (l.flatMap EC)
 |[],_,e,he=>by simp at he
 |f::l,h,e,he=>by
  rcases aqr.1 (by simpa using he:e∈EC f++l.flatMap EC)with he|he
  ·refine h.1 e ?_
   unfold EC at he
   unfold E
   split at he
   ·exact he
   ·split at he
    ·exact he
    ·exact List.mem_reverse.1 he
  ·exact SQ.xh h.2 e he
theorem aQ{cs:List Nat}{f:Nat}(h:SQ cs)(hc:H7 (cs.flatMap EC) (E f)=true):bd f:=Lh h.xh hc
theorem ok_one{f:Nat}{e:fu}(h:e.Ok prog)(he:E f=[e]):bd f:=by
 intro x hx
 rw[he]at hx
 obtain rfl:=aqn.1 hx
 exact h
theorem ahz{n:Nat}{e:El}(h:E3 n e)(hn:n≤100000000):Has [0] SP (.agg e.cs):=by
 have:=h.t0;have:=h.t1;have:=h.r;have:=h.m
 exact bg.agg (bI (.tN (by omega) (by omega)) (bI (.pA (by omega) (by omega)) (bI (.pA (by omega) (by simp only[D];omega)) eJ)))
theorem afv:bd 183:=ok_one (e:=⟨183,[sD],[],.aB [SP,sD,eA],[],0⟩) (pF rfl rfl fun args ha=>by
 obtain⟨x,rfl,hx⟩:=u6 ha
 obtain⟨s,rfl,h1,h2⟩:=cN hx
 simp only[D]at h2
 refine(rE s (by omega)).mono ?_
 rintro r ⟨t,c,q,rest,er,rfl,g1,g2,g3,g4,g5⟩
 exact bg.aB (bI (bg.agg (bI (.tN (by omega) (by omega)) (bI (.pA (by omega) (by omega)) (bI (.pA (by omega) (by simp only[D];omega)) eJ)))) (bI (.pA (by omega) (by simp only[D];omega)) (bI .CX eJ)))) (by kernel_rfl)
theorem S5:bd 184:=ok_one (e:=⟨184,[.str (.aR 0 131072)],[],.aB [.sl (.aR 0 131072) [.int .i64 (.aR 0 255),.str (.aR 0 131072),sD],eA],[],0⟩) (pF rfl rfl fun args ha=>by
 obtain⟨x,rfl,hx⟩:=u6 ha
 obtain⟨s,rfl,h1,h2⟩:=cN hx
 refine(Og s (by omega)).mono ?_
 rintro r (⟨er,rfl,h⟩|⟨l,rfl,g1,g2⟩)
 ·exact bg.aB (bI (.kW ⟨by omega,by omega⟩ (by simp)) (bI .CX eJ))
 ·refine bg.aB (bI (.sl ⟨by omega,by omega⟩ (by simp) (by rw[E4];rfl) fun i t v a b=>?_) (bI .CX eJ))
  have hi:=(apN.1 b).1
  rw[E4]at hi
  have he:=YQ l (i/3) (by omega)
  have hm:=g2 _ (apY (by omega:i/3<l.length))
  have:=hm.t0;have:=hm.t1;have:=hm.r;have:=hm.m
  have hv:(l[i/3].cs)[i%3]?=some v:=by
   rw[←he,aqc,if_pos (by omega),aqb,show i/3*3+i%3=i by omega];exact b
  have h3:i%3=0∨i%3=1∨i%3=2:=by omega
  rcases h3 with h3|h3|h3<;>rw[h3]at hv<;>simp only[apS,aqh,aq6,Nat.reduceAdd,h3]at a<;>simp[El.cs]at hv a<;>subst hv<;>subst a
  ·exact .tN (by omega) (by omega)
  ·exact .pA (by omega) (by omega)
  ·exact .pA (by omega) (by simp only[D];omega)) (by kernel_rfl)
theorem XQ:bd 141:=ok_one (e:=⟨141,[sD],[],.aB [sD,.int .i64 (.aR 0 7),eA],[],0⟩) (pF rfl rfl fun args ha=>by
 obtain⟨x,rfl,hx⟩:=u6 ha
 obtain⟨s,rfl,h1,h2⟩:=cN hx
 simp only[D]at h2
 refine(Dc s (by omega)).mono ?_
 rintro r ⟨b,k,er,rfl,g1,g2,g3,g4⟩
 exact bg.aB (bI (.pA (by omega) (by simp only[D];omega)) (bI (.tN g2 g3) (bI .CX eJ)))) (by kernel_rfl)
theorem agM:bd 213:=ok_one (e:=⟨213,[.int .i64 (.aR 0 511)],[],.aB [.str (.aR 0 3),eA],[],0⟩) (pF rfl rfl fun args ha=>by
 obtain⟨x,rfl,hx⟩:=u6 ha
 obtain⟨n,rfl,h1,h2⟩:=cW hx
 obtain⟨m,rfl⟩:=aqH h1
 have hm:m<512:=by omega
 refine(HJ m hm).ep ?_
 have hl:(Go.Der.PG m).length≤3:=by
  unfold Go.Der.PG
  rw[Go.Der.ye]
  have:Go.Der.Am m 16≤16:=Go.Der.K7 m 16
  omega
 exact bg.aB (bI (.pA (by omega) (by omega)) (bI .CX eJ))) (by kernel_rfl)
theorem ae7:bd 282:=ok_one (e:=⟨282,[sD],[],.aB [iA,eA],[],0⟩) (pF rfl rfl fun args ha=>by
 obtain⟨x,rfl,hx⟩:=u6 ha
 obtain⟨s,rfl,h1,h2⟩:=cN hx
 simp only[D]at h2
 refine(LD s (by omega)).mono ?_
 rintro r ⟨m,er,rfl,g1,g2⟩
 exact bg.aB (bI (.tN g1 g2) (bI .CX eJ))) (by kernel_rfl)
theorem afw:bd 211:=ok_one (e:=⟨211,[SP,.int .i64 (.aR 0 15)],[],eA,[],0⟩) (pF rfl rfl fun args ha=>by
 obtain⟨x,y,rfl,hx,hy⟩:=VP ha
 obtain⟨n,rfl,h1,h2⟩:=cW hy
 obtain⟨d,rfl⟩:=aqH h1
 cases hx with
 |@agg _ vs q1 q2=>
  match vs,q1,q2 with
  |[a,b,c],q1,q2=>
   obtain⟨t,rfl,-,-⟩:=cW (q2 0 _ _ rfl rfl)
   obtain⟨s,rfl,-,h3⟩:=cN (q2 1 _ _ rfl rfl)
   obtain⟨q,rfl,-,-⟩:=cN (q2 2 _ _ rfl rfl)
   refine(LC (15-d) d t s q (by omega) (by omega)).mono ?_
   rintro r ⟨er,rfl⟩
   exact .CX
  |[],q1,_=>simp at q1
  |[_],q1,_=>simp at q1
  |[_,_],q1,_=>simp at q1
  |_::_::_::_::_,q1,_=>simp at q1) (by kernel_rfl)
theorem afh:bd 253:=ok_one (e:=⟨253,[sD],[],.bool none [] [],[],0⟩) (pF rfl rfl fun args ha=>by
 obtain⟨x,rfl,hx⟩:=u6 ha
 obtain⟨s,rfl,h1,h2⟩:=cN hx
 simp only[D]at h2
 refine(PJ s (by omega)).mono ?_
 rintro r ⟨b,rfl⟩
 exact .Po) (by kernel_rfl)
theorem afr:bd 250:=ok_one (e:=⟨250,[sD],[],.bool none [] [],[],0⟩) (pF rfl rfl fun args ha=>by
 obtain⟨x,rfl,hx⟩:=u6 ha
 obtain⟨s,rfl,h1,h2⟩:=cN hx
 simp only[D]at h2
 refine(Mw s (by omega)).mono ?_
 rintro r ⟨b,rfl⟩
 exact .Po) (by kernel_rfl)
theorem k40:bd 40:=ok_one (e:=⟨40,[.int .i64 (.aR 0 7)],[],.agg [iA,sD,sD],[],0⟩) (pF rfl rfl fun args ha=>by
 obtain⟨x,rfl,hx⟩:=u6 ha
 obtain⟨n,rfl,h1,h2⟩:=cW hx
 obtain⟨m,rfl⟩:=aqH h1
 refine(zf m (by omega)).ep ?_
 have e1:=Go.Proofs.YtjlnoogcggdhkaaGreatDoor.xR (fD (1000+(m:Int)))
 have e2:=Go.Proofs.YtjlnoogcggdhkaaGreatDoor.Lc (ck (fD (1000+(m:Int)))) (fD (1000+(m:Int))) 0
 have e3:(dE m).h=0:=rfl
 exact bg.agg (bI (.tN (by omega) (by omega)) (bI (.pA (by omega) (by have:(dE m).id.length=16:=e1;simp only[D];omega)) (bI (.pA (by omega) (by have:(dE m).root.length=16:=e2;simp only[D];omega)) eJ)))) (by kernel_rfl)
end Go.Proofs.YtjlnoogcggdhkaaGreatDoor
