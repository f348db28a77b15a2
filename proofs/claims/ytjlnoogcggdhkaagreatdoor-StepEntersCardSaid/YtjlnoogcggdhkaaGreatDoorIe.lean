/-
 VALUE SEMANTICS, 56: code by shapes: states that meet, loops.
 Conditions: none.
-/
import Derived.Test.YtjlnoogcggdhkaaGreatDoorId
set_option maxRecDepth 100000
set_option maxHeartbeats 32000000
set_option linter.all false
set_option linter.unusedSectionVars false
namespace Go.Ck
noncomputable section
open Go.VS
variable [eb]
variable {rd : Option Nat} {b0 : Nat}
def mo{α β:Type}(g:β→α→β)(l:List α)(a:β):β:=List.rec (fun a=>a) (fun x _ ih a=>ih (g a x)) l a
structure JG where
 a:Nat
 c:Int
 b:Nat
 d:Int
structure JR where
 i:Option Nat
 j:Option Nat
 sz:Nat
structure JA where
 gs:List JG
 rw:List JR
 n0:Nat
 sm:Bool:=false
def Vh:List JG→Nat→Nat→Int→Nat→Int→Option (Nat×Int)
 |[],_,_,_,_,_=>none
 |g::l,k,a,c,b,d=>if Nat.beq g.a a&&(Nat.beq g.b b&&decide (c-g.c=d-g.d))then some (k,c-g.c)else Vh l (k+1) a c b d
def TA:Option Int→Option Int→Option Int
 |some a,some b=>some (if a≤b then a else b)
 |_,_=>none
def TB:Option Int→Option Int→Option Int
 |some a,some b=>some (if a≤b then b else a)
 |_,_=>none
def lO(m:Nat)(F1 F2:List Fact)(acc:JA)(i j:IV):IV×JA:=
 match i,j with
 |.aH a c,.aH b d=>if Nat.beq a b&&(decide (c=d)&&Nat.blt a m)then(.aH a c,acc)else(match Vh acc.gs 0 a c b d with
  |some (k,e)=>(.aH (m+k) e,acc)
  |none=>(.aH (m+acc.gs.length) 0,{acc with gs:=acc.gs++[⟨a,c,b,d⟩]}))
 |i,j=>(kI (TA (i.lo F1) (j.lo F2)) (TB (i.hi F1) (j.hi F2)),acc)
def YT(m:Nat)(a:Nat)(c d:Int):List JG→Nat→Option IV
 |[],_=>none
 |g::l,k=>if Nat.beq g.a 0&&(Nat.beq g.b 0&&decide (g.d-g.c=d-c))then some (.sum (.aH a (c-g.c)) (.aH (m+k) 0))else YT m a c d l (k+1)
def MX(m:Nat)(F1 F2:List Fact)(acc:JA)(i j:IV):IV×JA:=
 bif !acc.sm then lO m F1 F2 acc i j else match i,j with
 |.aH a c,.aH b d=>if Nat.beq a b&&(Nat.blt a m&&(!Nat.beq a 0&&!decide (c=d)))then(match YT m a c d acc.gs 0 with
  |some r=>(r,acc)
  |none=>lO m F1 F2 acc i j)else lO m F1 F2 acc i j
 |.sum (.aH a c) q,.sum (.aH b d) q'=>if Nat.beq a b&&(Nat.blt a m&&decide (c=d))then(let p:=lO m F1 F2 acc q q';(.sum (.aH a c) p.1,p.2))else lO m F1 F2 acc i j
 |i,j=>lO m F1 F2 acc i j
def QE(i j:IV):IV:=
 match i,j with
 |.aR a b,.aR c d=>.aR (if a≤c then a else c) (if b≤d then d else b)
 |.aH 0 a,.aR c d=>.aR (if a≤c then a else c) (if a≤d then d else a)
 |.aR a b,.aH 0 c=>.aR (if a≤c then a else c) (if b≤c then c else b)
 |.aH 0 a,.aH 0 c=>.aR (if a≤c then a else c) (if a≤c then c else a)
 |_,_=>.top
mutual
def YU:T→T→T
 |.int k i,.int k' j=>if k=k' then .int k (QE i j)else .any
 |.bool _ _ _,.bool _ _ _=>.bool none [] []
 |.str i,.str j=>.str (QE i j)
 |.aj,.aj=>.aj
 |.aj,.sl l e=>.sl (QE (.aH 0 0) l) e
 |.sl l e,.aj=>.sl (QE l (.aH 0 0)) e
 |.sl l e,.sl l' e'=>.sl (QE l l') (mq e e')
 |.agg e,.agg e'=>.agg (mq e e')
 |.aB e,.aB e'=>.aB (mq e e')
 |.aL e,.aL e'=>.aL (mq e e')
 |.aq,.aq=>.aq
 |_,_=>.any
def mq:List T→List T→List T
 |a::l,b::m=>YU a b::mq l m
 |_,_=> []
end
def Vi:List JR→Nat→Option Nat→Option Nat→Option Nat
 |[],_,_,_=>none
 |r::l,k,i,j=>if r.i==i&&r.j==j then some k else Vi l (k+1) i j
def AA(a:Option AR):Bool:=
 match a with
 |some (.cells _)|some (.arr _ _)=>true
 |_=>false
def HL(a b:Option Nat):Bool:=
 match a,b with
 |some x,some y=>Nat.beq x y
 |_,_=>false
def QF(acc:JA)(i j:Option Nat)(sz:Nat):Option (Nat×JA):=
 match Vi acc.rw 0 i j with
 |some k=>some (k,acc)
 |none=>if(acc.rw.drop acc.n0).any fun r=>HL r.i i||HL r.j j then none else some (acc.rw.length,{acc with rw:=acc.rw++[⟨i,j,sz⟩]})
def IP(m:Nat)(F1 F2:List Fact)(acc:JA)(i j:Option Nat)(l l':IV)(sz:Nat):T×JA:=
 match QF acc i j sz with
 |some r=>(let p:=MX m F1 F2 r.2 l l';(.av r.1 p.1 sz,p.2))
 |none=>(.any,acc)
mutual
def IQ(m:Nat)(S1 S2:St)(acc:JA):T→T→T×JA
 |.int k i,.int k' j=>if k=k' then(let p:=lO m S1.F S2.F acc i j;(.int k p.1,p.2))else(.any,acc)
 |.bool _ _ _,.bool _ _ _=>(.bool none [] [],acc)
 |.str i,.str j=>(let p:=lO m S1.F S2.F acc i j;(.str p.1,p.2))
 |.aj,.aj=>(.aj,acc)
 |.aq,.aq=>(.aq,acc)
 |.aj,.sl l e=>(let p:=lO m S1.F S2.F acc (.aH 0 0) l;(.sl p.1 (gO S2.F e),p.2))
 |.sl l e,.aj=>(let p:=lO m S1.F S2.F acc l (.aH 0 0);(.sl p.1 (gO S1.F e),p.2))
 |.sl l e,.sl l' e'=>(let p:=lO m S1.F S2.F acc l l';(.sl p.1 (mq (gO S1.F e) (gO S2.F e')),p.2))
 |.aj,.av i l sz=>if AA S2.R[i]? then IP m S1.F S2.F acc none (some i) (.aH 0 0) l sz else(.any,acc)
 |.av i l sz,.aj=>if AA S1.R[i]? then IP m S1.F S2.F acc (some i) none l (.aH 0 0) sz else(.any,acc)
 |.av i l sz,.av i' l' cG=>if Nat.beq sz cG&&(AA S1.R[i]?&&AA S2.R[i']?)then IP m S1.F S2.F acc (some i) (some i') l l' sz else(.any,acc)
 |.ref i o,.ref i' o'=>if Nat.beq o o'&&(AA S1.R[i]?&&AA S2.R[i']?)then(match QF acc (some i) (some i') 0 with|some r=>(.ref r.1 o,r.2)|none=>(.any,acc))else(.any,acc)
 |.agg e,.agg e'=>if Nat.beq e.length e'.length then(let p:=Dx m S1 S2 acc e e';(.agg p.1,p.2))else(.any,acc)
 |.aB e,.aB e'=>if Nat.beq e.length e'.length then(let p:=Dx m S1 S2 acc e e';(.aB p.1,p.2))else(.any,acc)
 |.aL e,.aL e'=>(.aL (mq (gO S1.F e) (gO S2.F e')),acc)
 |.fn f [],.fn f' []=>if Nat.beq f f' then(.fn f [],acc)else(.any,acc)
 |_,_=>(.any,acc)
def Dx(m:Nat)(S1 S2:St)(acc:JA):List T→List T→List T×JA
 |a::l,b::m'=>(let p:=bif wa m 8 a b then(a,acc)else IQ m S1 S2 acc a b;let q:=Dx m S1 S2 p.2 l m';(p.1::q.1,q.2))
 |_,_=>([],acc)
end
def Dy(F1 F2:List Fact)(i j:IV):IV:=kI (TA (i.lo F1) (j.lo F2)) (TB (i.hi F1) (j.hi F2))
def QG(m:Nat)(S1 S2:St)(acc:JA):List T→List T→List T×JA
 |a::l,b::m'=>(let p:=bif wa m 8 a b then(a,acc)else(match a,b with
   |.int k i,.int k' j=>if k=k' then(.int k (Dy S1.F S2.F i j),acc)else(.any,acc)
   |.str i,.str j=>(.str (Dy S1.F S2.F i j),acc)
   |.aj,.sl l e=>(.sl (Dy S1.F S2.F (.aH 0 0) l) (gO S2.F e),acc)
   |.sl l e,.aj=>(.sl (Dy S1.F S2.F l (.aH 0 0)) (gO S1.F e),acc)
   |.sl l e,.sl l' e'=>(.sl (Dy S1.F S2.F l l') (mq (gO S1.F e) (gO S2.F e')),acc)
   |a,b=>IQ m S1 S2 acc a b)
  let q:=QG m S1 S2 p.2 l m';(p.1::q.1,q.2))
 |_,_=>([],acc)
def Cs(l:List T)(sz:Nat):IV:=.aH 0 (l.length/sz:Nat)
def AB(F:List Fact)(l:List T)(sz:Nat):List T:=match(pieces l sz (l.length/sz)).map (gO F)with
 |[]=> []
 |a::r=>r.foldl mq a
def sY(m:Nat)(S1 S2:St):Nat→Nat→JA→List AR→List AR×JA
 |0,_,acc,out=>(out,acc)
 |n+1,k,acc,out=>
  match acc.rw[k]? with
  |none=>(out,acc)
  |some r=>
   let a:=r.i.bind fun i=>S1.R[i]?
   let b:=r.j.bind fun j=>S2.R[j]?
   if Nat.blt k acc.n0&&(acc.rw.drop acc.n0).any (fun q=>HL q.i (some k)||HL q.j (some k))then sY m S1 S2 n (k+1) acc (out++[.dead])else
   let arr:=fun(n1 n2:IV) (e:List T)=>(let p:=MX m S1.F S2.F acc n1 n2;sY m S1 S2 n (k+1) p.2 (out++[.arr p.1 e]))
   match r.i,r.j,a,b with
   |some _,some _,some (.cells l),some (.cells l')=>if Nat.beq l.length l'.length then(let p:=bif Nat.ble 12 l.length then QG m S1 S2 acc l l' else Dx m S1 S2 acc l l';sY m S1 S2 n (k+1) p.2 (out++[.cells p.1]))else
     arr (Cs l r.sz) (Cs l' r.sz) (mq (AB S1.F l r.sz) (AB S2.F l' r.sz))
   |some _,some _,some (.arr n1 e),some (.arr n2 e')=>arr n1 n2 (mq (gO S1.F e) (gO S2.F e'))
   |some _,some _,some (.cells l),some (.arr n2 e')=>arr (Cs l r.sz) n2 (mq (AB S1.F l r.sz) (gO S2.F e'))
   |some _,some _,some (.arr n1 e),some (.cells l')=>arr n1 (Cs l' r.sz) (mq (gO S1.F e) (AB S2.F l' r.sz))
   |none,some _,_,some (.arr n2 e')=>arr (.aH 0 0) n2 (gO S2.F e')
   |none,some _,_,some (.cells l')=>arr (.aH 0 0) (Cs l' r.sz) (AB S2.F l' r.sz)
   |some _,none,some (.arr n1 e),_=>arr n1 (.aH 0 0) (gO S1.F e)
   |some _,none,some (.cells l),_=>arr (Cs l r.sz) (.aH 0 0) (AB S1.F l r.sz)
   |_,_,_,_=>sY m S1 S2 n (k+1) acc (out++[.dead])
def QH:Nat→Nat→List JR
 |0,_=> []
 |n+1,k=>⟨some k,some k,0⟩::QH n (k+1)
def addFact(l:List Fact)(f:Fact):List Fact:=if l.any (fun g=>Nat.beq g.a f.a&&(Nat.beq g.b f.b&&(Nat.beq g.k f.k&&eM g.c f.c)))then l else f::l
def TC(a b:Option Int):Option Int:=
 match a,b with
 |some x,some y=>some (bif eM x y then x else y)
 |some x,none=>some x
 |none,y=>y
def Vj(F:List Fact)(k b:Nat):Nat→Nat→Option Int
 |0,g=>bif Nat.beq g b&&Nat.beq k 1 then some 0 else none
 |n+1,g=>bif Nat.beq g b&&Nat.beq k 1 then some 0 else mo (fun acc f=>br acc (bif Nat.beq f.b 0 then acc else bif Nat.beq f.b b&&Nat.beq f.k k then TC acc (some f.c)else bif Nat.beq f.k 1 then TC acc ((Vj F k b n f.b).map (· +f.c))else acc) (Nat.beq f.a g)) F none
def AD(F:List Fact)(k b g:Nat):Option Int:=
 TC (bif Nat.beq g 0 then none else Vj F k b 3 g) (match o0 F dep g,nr F dep b with
  |some u,some l=>bif eM u 4611686018427387904&&eM (-4611686018427387904) l then some (u-xg k l)else none
  |_,_=>none)
def Oh(l:List (Nat×Nat))(p:Nat×Nat):List (Nat×Nat):=if l.any fun q=>Nat.beq q.1 p.1&&Nat.beq q.2 p.2 then l else p::l
def targets(m:Nat)(F1 F2:List Fact)(g:JG):List (Nat×Nat):=
 let ok:=fun(b:Nat)=>Nat.blt b m&&!Nat.beq b 0
 let t0:=(bif ok g.a then[(1,g.a)]else[])++(bif ok g.b then[(1,g.b)]else[])
 let t1:=mo (fun acc f=>br (br (bif ok f.b then Oh acc (f.k,f.b)else acc) acc (Nat.beq f.k 1)) (bif ok f.b&&((!Nat.beq g.b 0||(ltZ f.c 0||(Nat.beq g.a 0&&eM f.c 0)))||!Nat.beq f.k 1)then Oh acc (f.k,f.b)else acc) (Nat.beq f.a g.b)) F2 t0
 mo (fun acc f=>br acc (bif ok f.b&&!Nat.beq g.a 0 then Oh acc (f.k,f.b)else acc) (Nat.beq f.a g.a)) F1 t1
def YV(Vk:List Int)(m:Nat)(F1 F2:List Fact)(wm:Nat)(gs:List JG)(k:Nat)(g:JG):List Fact:=
 let h:=m+k
 let wide:=Nat.beq wm 1
 let Gt:=(nr F1 dep g.a).map (· +g.c)
 let Gu:=(nr F2 dep g.b).map (· +g.d)
 let jf:=(o0 F1 dep g.a).map (· +g.c)
 let pM:=(o0 F2 dep g.b).map (· +g.d)
 let first:=Nat.blt g.a m
 let lo:=if wide then(if fq Gt Gu then Gt else if fq (some (-9223372036854775808)) Gu then some (-9223372036854775808)else none)else TA Gt Gu
 let th:=if wide&&!fq pM jf then Vk.find? (fun t=>fq pM (some t))else none
 let hi:=if wide then(if fq pM jf then jf else if th.isSome then th else if first&&(!Nat.beq g.a 0&&!Nat.beq g.b 0)then pM else if fq pM (some 9223372036854775807)then some 9223372036854775807 else none)else TB jf pM
 let cs:=(targets m F1 F2 g).foldl (fun acc t=>(match(AD F1 t.1 t.2 g.a).map (· +g.c),(AD F2 t.1 t.2 g.b).map (· +g.d)with
  |some c1,some c2=>if wide&&(!first&&ltZ c1 c2)then acc else(let c:=bif eM c1 c2 then c2 else c1
   bif fq hi ((nr F1 dep t.2).map fun l=>xg t.1 l+c)then acc else addFact acc ⟨h,t.1,t.2,c⟩)
  |_,_=>acc)) []
 (match lo with|some x=> [⟨0,1,h,-x⟩]|none=> [])++((match hi with|some x=> [⟨h,1,0,x⟩]|none=> [])++
 (cs++
 (if wide&&(!fq pM jf&&fq jf pM)then(match jf,pM with
  |some u1,some u2=>((gs.zipIdx.filter fun q=>!Nat.beq q.2 k&&(Nat.beq q.1.a 0&&(Nat.beq q.1.b 0&&decide (q.1.d=q.1.c+1)))).take 1).map fun q=>⟨h,(u2-u1).toNat,m+q.2,u1-(u2-u1)*q.1.c⟩
  |_,_=> [])else[])++
 (if !Nat.beq wm 0&&Nat.ble gs.length 40 then gs.zipIdx.foldl (fun acc q=>bif Nat.beq q.2 k then acc else
  (mo (fun l f=>br l (bif Nat.beq f.b q.1.b&&!Nat.beq f.k 1 then f.k::l else l) (Nat.beq f.a g.b)) F2 (mo (fun l f=>br l (bif Nat.beq f.b q.1.a&&!Nat.beq f.k 1 then f.k::l else l) (Nat.beq f.a g.a)) F1 (bif Nat.ble gs.length 8 then[1]else[]))).foldl (fun acc kk=>(match AD F1 kk q.1.a g.a,AD F2 kk q.1.b g.b with
  |some x,some y=>(let c1:=x+g.c-xg kk q.1.c;let c2:=y+g.d-xg kk q.1.d
   bif eM c2 c1 then addFact acc ⟨h,kk,m+q.2,c1⟩else bif wide then acc else addFact acc ⟨h,kk,m+q.2,c2⟩)
  |_,_=>acc)) acc) []else[])))
def IS(Vk:List Int)(m:Nat)(F1 F2:List Fact)(wide:Nat)(gs:List JG):Nat→List JG→List Fact
 |_,[]=> []
 |k,g::l=>YV Vk m F1 F2 wide gs k g++IS Vk m F1 F2 wide gs (k+1) l
abbrev Hs:=List (Nat×Nat×Nat)
def YW(t:T):Option Nat:=
 match t with
 |.int _ (.aH g _)|.str (.aH g _)|.sl (.aH g _) _|.av _ (.aH g _) _=>some g
 |_=>none
def QI(m:Nat)(gs:List JG)(g:Nat):Option JG:=if Nat.blt g m then some ⟨g,0,g,0⟩else gs[g-m]?
def ab2(hs:Hs):List Int:=(hs.filter fun p=>Nat.beq p.1 99999).map fun p=>(p.2.1:Int)
def ab3(m:Nat)(F1 F2:List Fact)(wm:Nat)(gs:List JG)(S:SL)(hs:Hs):List Fact:=
 hs.flatMap fun p=>(match YW (bN S p.1),YW (bN S p.2.2)with
  |some g,some h=>(match QI m gs g,QI m gs h with
   |some a,some b=>(match AD F1 p.2.1 b.a a.a,AD F2 p.2.1 b.b a.b with
    |some x,some y=>(let c1:=x+a.c-p.2.1*b.c;let c2:=y+a.d-p.2.1*b.d
     if eM c2 c1 then[⟨g,p.2.1,h,c1⟩]else if Nat.beq wm 1 then[]else[⟨g,p.2.1,h,c2⟩])
    |_,_=> [])
   |_,_=> [])
  |_,_=> [])
def Dz(m:Nat)(S1 S2:St):List (Nat×T)→Nat→JA→List (Nat×T)×JA
 |[],_,acc=>([],acc)
 |p::l,seen,acc=>bif seen.testBit p.1 then Dz m S1 S2 l seen acc else(match bN S2.S p.1 with
  |.any=>Dz m S1 S2 l (seen|||2^p.1) acc
  |u=>(let r:=bif wa m 8 p.2 u then(p.2,acc)else IQ m S1 S2 acc p.2 u
   let q:=Dz m S1 S2 l (seen|||2^p.1) r.2
   match r.1 with
   |.any=>q
   |t=>((p.1,t)::q.1,q.2)))
def HM(H:Hs)(n0 m:Nat)(B:List Fact)(wide:Nat)(S1 S2:St):St:=
 let p:=Dz m S1 S2 S1.S.l 0 ⟨[],QH n0 0,n0,H.any fun p=>Nat.beq p.1 99998⟩
 let q:=sY m S1 S2 40 0 p.2 []
 ⟨m+q.2.gs.length,ab3 m S1.F S2.F wide q.2.gs ⟨S1.S.length,p.1,S1.S.ex⟩ H++(IS (ab2 H) m S1.F S2.F wide q.2.gs 0 q.2.gs++B),⟨S1.S.length,p.1,S1.S.ex⟩,q.1⟩
structure MA where
 μ:List (Option (Nat×Int))
 ρ:List (Option (Option Nat))
def rJ(m:Nat)(acc:MA)(j i:IV):MA:=
 match j,i with
 |.aH b c0,.aH g c=>if Nat.blt b m then acc else(match acc.μ[b-m]? with
  |some none=>{acc with μ:=acc.μ.set (b-m) (some (g,c-c0))}
  |_=>acc)
 |_,_=>acc
def TD(acc:MA)(j:Nat)(i:Option Nat):MA:=
 match acc.ρ[j]? with
 |some none=>{acc with ρ:=acc.ρ.set j (some i)}
 |_=>acc
mutual
def YX(m:Nat)(acc:MA):T→T→MA
 |.int _ j,.int _ i=>rJ m acc j i
 |.str j,.str i=>rJ m acc j i
 |.sl j _,.sl i _=>rJ m acc j i
 |.sl j _,.aj=>rJ m acc j (.aH 0 0)
 |.av j l _,.av i l' _=>rJ m (TD acc j (some i)) l l'
 |.av j l _,.aj=>rJ m (TD acc j none) l (.aH 0 0)
 |.ref j _,.ref i _=>TD acc j (some i)
 |.agg e,.agg e'=>HN m acc e e'
 |.aB e,.aB e'=>HN m acc e e'
 |_,_=>acc
def HN(m:Nat)(acc:MA):List T→List T→MA
 |a::l,b::l'=>HN m (bif wa m 8 a b then acc else YX m acc a b) l l'
 |_,_=>acc
end
def E7(m:Nat)(R:List AR):Nat→List AR→MA→MA
 |_,[],acc=>acc
 |k,b::bs,acc=>E7 m R (k+1) bs (match acc.ρ[k]? with
  |some (some (some i))=>(match b,R[i]? with
   |.cells l,some (.cells l')=>HN m acc l l'
   |.arr n _,some (.arr n' _)=>rJ m acc n n'
   |.arr n e,some (.cells l)=>rJ m acc n (Cs l e.length)
   |_,_=>acc)
  |some (some none)=>(match b with
   |.arr n _=>rJ m acc n (.aH 0 0)
   |_=>acc)
  |_=>acc)
def pZ(n0 m:Nat)(J N:St):List (Nat×Int)×List (Option Nat):=
 let a0:MA:=⟨List.replicate (J.ng-m) none,(List.range J.R.length).map fun j=>if Nat.blt j n0 then some (some j)else none⟩
 let a1:=J.S.l.foldl (fun acc p=>YX m acc p.2 (bN N.S p.1)) a0
 let a2:=E7 m N.R 0 J.R a1
 let a3:=E7 m N.R 0 J.R a2
 (a3.μ.map fun x=>x.getD (0,0),a3.ρ.map fun x=>x.getD none)
def within(n0 m:Nat)(nB:Nat)(J N:St):Bool:=
 let p:=pZ n0 m J N
 MY n0 m (J.F.length-nB) p.1 p.2 N J
inductive Ex where
 |normal
 |exit (id:Nat)
 |ret
def Oi:Ex→Exit
 |.normal=>.normal
 |.exit id=>.exit id
 |.ret=>.ret
abbrev dU:=List (Ex×St)
def fF:dU→List St
 |[]=> []
 |(.normal,S)::l=>S::fF l
 |_::l=>fF l
def others:dU→dU
 |[]=> []
 |(.normal,_)::l=>others l
 |e::l=>e::others l
def so(id:Nat):dU→dU
 |[]=> []
 |(.exit j,S)::l=>(if Nat.beq j id then(.normal,S)else(.exit j,S))::so id l
 |e::l=>e::so id l
inductive IT where
 |none
 |up (h g:Nat) (c:Int)
 |down (h:Nat) (c:Int)
def IU(m:Nat)(ms:IT)(N:St)(μ:List (Nat×Int)):Bool:=
 match ms with
 |.none=>false
 |.up h g c=>Nat.blt g m&&(!Nat.blt h m&&((match μ[h-m]? with
  |some (a,d)=>Nat.beq a h&&decide (1≤d)
  |.none=>false)&&DA N.F 4 h 1 g c))
 |.down h c=>!Nat.blt h m&&((match μ[h-m]? with
  |some (a,d)=>Nat.beq a h&&decide (d≤ -1)
  |.none=>false)&&DA N.F 4 0 1 h c)
def QJ(m:Nat)(N:St)(μ:List (Nat×Int)):IT:=
 let aE:=μ.zipIdx.filter fun q=>Nat.beq q.1.1 (m+q.2)&&decide (1≤q.1.2)
 let dns:=μ.zipIdx.filter fun q=>Nat.beq q.1.1 (m+q.2)&&decide (q.1.2≤ -1)
 let cu:=aE.flatMap fun q=>(N.F.filter fun f=>Nat.beq f.a (m+q.2)&&(Nat.beq f.k 1&&Nat.blt f.b m)).map fun f=>IT.up (m+q.2) f.b f.c
 let cd:=dns.flatMap fun q=>(N.F.filter fun f=>Nat.beq f.a 0&&(Nat.beq f.k 1&&Nat.beq f.b (m+q.2))).map fun f=>IT.down (m+q.2) f.c
 match cu with
 |a::_=>a
 |[]=>match cd with
  |a::_=>a
  |[]=>.none
def Ct(n0 m nB:Nat)(J:St)(ns:List St):Bool:=
 match ns with
 |[]=>true
 |N::_=>(let ms:=QJ m N (pZ n0 m J N).1
  ns.all fun N=>IU m ms N (pZ n0 m J N).1&&within n0 m nB J N)
def uw(ops:List Oper):Nat→Nat→Nat
 |0,x=>x
 |n+1,x=>match ops.find? fun o=>o.dst==some x with
  |some o=>(match o.op with
   |.move (.tmp y)=>uw ops n y
   |_=>x)
  |none=>x
def partsOf(L:Env)(S:St)(o:Op):List Nat:=
 let tm:=fun(x:Operand)=>match x with|.tmp t=> [t]|_=> []
 match o with
 |.buildSlice _ _ ps|.build _ ps=>ps.toList.flatMap fun p=>tm p.2
 |.store _ _ v|.box _ v=>tm v
 |.slice _ x (some lo) _ _=>(match oT S.S lo with|.int _ (.aH 0 0)=> []|_=>tm x)
 |.call q=>(match q.callee with
  |.value (.func f)=>(match Wx L.xh f with
   |some e=>if e.res.flat then[]else q.args.toList.flatMap tm
   |none=> [])
  |_=> [])
 |_=> []
def Wy(S:St)(ops:List Oper)(x:Nat):List Nat:=
 match ops.find? fun o=>o.dst==some x with
 |some o=>(match o.op with
  |.load _ (.tmp r)=>(match bN S.S (uw ops 4 r)with
   |.ref id _=>(match S.R[id]? with
    |some (.cells l)=>l.filterMap fun t=>(match t with|.av j _ _=>some j|_=>none)
    |_=> [])
   |_=> [])
  |_=> [])
 |none=> []
def Gv(L:Env)(S:St)(ops:List Oper):List Nat:=
 (bif S.S.ex then[]else ops.flatMap fun o=>(match o.op with
  |.buildSlice _ _ ps=>ps.toList.flatMap fun p=>(match p.2 with|.tmp x=>Wy S ops x|_=> [])
  |_=> []))++
 ops.flatMap fun o=>(partsOf L S o.op).flatMap fun x=>(match bN S.S (uw ops 4 x)with
  |.av id _ _=>if(ops.any fun p=>match p.op with
    |.call q=>(match q.callee with|.builtin .append=>(match q.args.toList with|.tmp a::_=>Nat.beq (uw ops 4 a) (uw ops 4 x)|_=>false)|_=>false)
    |_=>false)then[]else[id]
  |_=> [])
def rK:Nat→Code→List Oper
 |0,_=> []
 |n+1,c=>match c with
  |.region _ ops _=>ops.toList
  |.seq a b=>rK n a++rK n b
  |.cond _ a b=>rK n a++rK n b
  |.block _ a=>rK n a
  |.loop a=>rK n a
  |_=> []
def E8(S:St)(ops:List Oper):List Nat:=
 ops.flatMap fun o=>match o.op with
  |.slice _ (.tmp t) (some lo) _ _=>(match oT S.S lo with
   |.int _ (.aH 0 0)=> []
   |_=>(match bN S.S (uw ops 4 t)with
    |.av id _ _=>if(ops.any fun p=>match p.op with
      |.call q=>(match q.callee with|.builtin .append=>(match q.args.toList with|.tmp a::_=>Nat.beq (uw ops 4 a) (uw ops 4 t)|_=>false)|_=>false)
      |_=>false)then[]else[id]
    |_=> []))
  |_=> []
def gf(S:St):List Nat→St
 |[]=>S
 |i::l=>(match wc i S with
  |some S'=>gf S' l
  |none=>gf S l)
def lP(H:Hs)(n0 m:Nat)(B:List Fact):St→List St→St
 |J,[]=>J
 |J,N::l=>lP H n0 m B (HM H n0 m B 0 J N) l
def sZ(n0:Nat)(S J:St)(o:dU):Bool:=within n0 S.ng S.F.length J S&&Ct n0 S.ng S.F.length J (fF o)
def narrow(H:Hs)(body:St→Option dU)(n0:Nat)(S:St)(o:dU):Option dU:=
 match fF o with
 |[]=>none
 |N::l=>(let J:=HM H n0 S.ng S.F 2 S (lP H n0 S.ng S.F N l)
  match body J with
  |none=>none
  |some o2=>if sZ n0 S J o2 then some (others o2)else none)
def y5(H:Hs)(IW:Bool)(body:St→Option dU)(n0:Nat)(S:St):Nat→St→Option dU
 |0,_=>none
 |k+1,J=>(match body J with
  |none=>none
  |some o=>if sZ n0 S J o then(match(if IW then narrow H body n0 S o else none)with
    |some r=>some r
    |none=>some (others o))else(match fF o with
   |[]=>none
   |N::l=>Gw (HM H n0 S.ng S.F 1 J (lP H n0 S.ng S.F N l)) fun J=>y5 H IW body n0 S k J))
theorem BD{H:Hs}{IW:Bool}{body:St→Option dU}{n0:Nat}{S:St}: ∀{k:Nat} {J:St} {o':dU},y5 H IW body n0 S k J=some o'→ ∃J o,body J=some o∧sZ n0 S J o=true∧o'=others o
 |0,_,_,h=>by simp[y5]at h
 |k+1,J,o',h=>by
  simp only[y5]at h
  split at h
  ·cases h
  ·rename_i o ho
   split at h
   ·rename_i hw
    split at h
    ·rename_i r hr
     obtain rfl:=apO h
     split at hr
     ·unfold narrow at hr
      split at hr
      ·cases hr
      ·dsimp only at hr
       split at hr
       ·cases hr
       ·rename_i o2 h2
        obtain⟨q1,q2⟩:=aG hr
        exact⟨_,o2,h2,q1,q2.symm⟩
     ·cases hr
    ·exact⟨J,o,ho,hw,(apO h).symm⟩
   ·split at h
    ·cases h
    ·rw[we]at h;exact BD h
def o4(H:Hs)(body:St→Option dU)(n0 m:Nat)(B:List Fact):Nat→St→Option dU
 |0,_=>none
 |k+1,S=>(match body S with
  |none=>none
  |some o=>(match fF o with
   |[]=>some o
   |[N]=>(o4 H body n0 m B k N).map (others o++ ·)
   |N::l=>(let J:=lP H n0 m B N l
    if(N::l).all (within n0 m B.length J)then(o4 H body n0 m B k J).map (others o++ ·)else none)))
def E9(F:List Fact)(G:List Fact):Bool:=G.any fun f=>Nat.beq f.k 1&&(DA F 4 f.b 1 f.a (-f.c-1)||fq ((o0 F 4 f.b).map (· +(f.c+1))) (nr F 4 f.a))
theorem DB{θ:List Int}{F G:List Fact}(h0:θ[0]?=some 0)(hF:aM θ F)(h:E9 F G=true): ¬aM θ G:=by
 intro hG
 obtain⟨f,hf,h⟩:=List.any_eq_true.1 h
 simp only[apP,aqe,aqi]at h
 obtain⟨hk,h⟩:=h
 obtain⟨x,y,h1,h2,h3⟩:=hG f hf
 rw[hk]at h3
 rcases h with h|h
 ·have:=wg h0 hF _ _ _ _ _ _ _ h h2 h1
  omega
 ·obtain⟨u,w,e1,e2,e3⟩:=fG h
  simp only[ap0]at e1
  obtain⟨u',e1,rfl⟩:=e1
  have:=ta h0 hF _ _ _ _ e1 h2
  have:=tc h0 hF _ _ _ _ e2 h1
  omega
def Oj(h:Option (St→St))(body:St→Option dU)(n0:Nat)(S:St):Option dU:=
 match h with
 |none=>none
 |some h=>Gw (h S) fun J=>(match body J with
  |none=>none
  |some o=>if sZ n0 S J o then some (others o)else none)
theorem Ol{h:Option (St→St)}{body:St→Option dU}{n0:Nat}{S:St}{o':dU}(e:Oj h body n0 S=some o'): ∃J o,body J=some o∧sZ n0 S J o=true∧o'=others o:=by
 unfold Oj at e
 split at e
 ·cases e
 ·rw[we]at e
  split at e
  ·cases e
  ·rename_i o ho
   obtain⟨q1,q2⟩:=aG e
   exact⟨_,o,ho,q1,q2.symm⟩
def HO(un:Un)(body:St→Option dU)(n0:Nat)(S:St):Option dU:=
 match Oj un.head body n0 S with
 |some o=>some o
 |none=>match body S with
 |none=>none
 |some o1=>(match fF o1 with
  |[]=>some o1
  |N::l=>Gw (HM un.hs n0 S.ng S.F 1 S (lP un.hs n0 S.ng S.F N l)) fun J=>y5 un.hs un.IW body n0 S 4 J)
def loops:Nat→Code→Bool
 |0,_=>true
 |n+1,c=>match c with
  |.seq a b=>loops n a||loops n b
  |.cond _ a b=>loops n a||loops n b
  |.block _ a=>loops n a
  |.loop _=>true
  |_=>false
def Vl(un:Un)(pre:Bool)(body:St→Option dU)(n0:Nat)(S:St):Option dU:=
 if pre then(match o4 un.hs body n0 S.ng S.F un.rounds S with
  |some o=>some o
  |none=>HO un body n0 S)
 else(match HO un body n0 S with
  |some o=>some o
  |none=>o4 un.hs body n0 S.ng S.F un.rounds S)
def tmpsOf(D:Nat)(l:List Operand)(U:Nat):Nat:=l.foldl (fun U x=>match x with|.tmp t=>bif D.testBit t then U else U|||2^t|_=>U) U
def Vm:List Oper→Nat→Nat→Nat
 |[],_,U=>U
 |o::os,D,U=>Vm os (match o.dst with|some d=>D|||2^d|none=>D) (tmpsOf D o.op.operands.toList U)
def xi:Nat→Code→Nat→Nat
 |0,_,U=>U
 |n+1,c,U=>match c with
  |.region _ ops _=>Vm ops.toList 0 U
  |.seq a b=>xi n b (xi n a U)
  |.cond c a b=>xi n b (xi n a (tmpsOf 0 [c] U))
  |.block _ a=>xi n a U
  |.loop a=>xi n a U
  |_=>U
def IX(c:Code)(rs:List ResultVar):Nat:=xi 200 c (rs.foldl (fun U r=>match r with|.tmp t=>U|||2^t|.cell a _=>U|||2^a) 0)
def mr(U:Nat)(l:List (Nat×T)):List (Nat×T):=List.rec (fun _=> []) (fun p _ ih U=>bif U.testBit p.1 then p::ih (U^^^2^p.1)else ih U) l U
theorem DC(U:Nat)(p:Nat×T)(l:List (Nat×T)):mr U (p::l)=bif U.testBit p.1 then p::mr (U^^^2^p.1) l else mr U l:=rfl
theorem y6: ∀{l:List (Nat×T)} {U i:Nat},U.testBit i=false→look (mr U l) i=.any
 |[],U,i,_=>rfl
 |p::l,U,i,h=>by
  rw[DC]
  cases hp:U.testBit p.1 with
  |false=>exact y6 h
  |true=>
   have bw:p.1≠i:=fun e=>by rw[e,h]at hp;cases hp
   have hb:Nat.beq p.1 i=false:=by cases hb:Nat.beq p.1 i with|true=>exact absurd (ap9 hb) bw|false=>rfl
   show look (p::mr (U^^^2^p.1) l) i=_
   rw[eY,hb]
   exact y6 (by rw[Nat.testBit_xor,h,Nat.testBit_two_pow_of_ne bw];rfl)
theorem xj: ∀{l:List (Nat×T)} {U i:Nat},look (mr U l) i=.any∨look (mr U l) i=look l i
 |[],U,i=>.inl rfl
 |p::l,U,i=>by
  rw[DC,eY]
  cases hp:U.testBit p.1 with
  |false=>
   cases hb:Nat.beq p.1 i with
   |true=>obtain rfl:=ap9 hb;exact .inl (y6 hp)
   |false=>exact xj
  |true=>
   show look (p::mr (U^^^2^p.1) l) i=_∨look (p::mr (U^^^2^p.1) l) i=_
   rw[eY]
   cases hb:Nat.beq p.1 i with
   |true=>exact .inr rfl
   |false=>exact xj
def QK(i:IV)(U:Nat):Nat:=
 match i with
 |.aH g _=>U|||2^g
 |.lQ a b _=>U|||2^a|||2^b
 |.sum i j=>QK i (QK j U)
 |_=>U
def tM:Nat→T→Nat→Nat
 |0,_,U=>U
 |n+1,t,U=>match t with
  |.int _ i|.str i|.av _ i _|.fy _ _ _ i=>QK i U
  |.sl i _=>QK i U
  |.agg e|.aB e|.fn _ e=>mo (fun U t=>tM n t U) e U
  |.alt a b=>tM n a (tM n b U)
  |.bool _ y m=>mo (fun U f=>U|||2^f.a|||2^f.b) y (mo (fun U f=>U|||2^f.a|||2^f.b) m U)
  |_=>U
def rM(a:AR)(U:Nat):Nat:=
 match a with
 |.cells l=>mo (fun U t=>tM 6 t U) l U
 |.arr n _=>QK n U
 |_=>U
def stM(S:St):Nat:=mo (fun U a=>rM a U) S.R (mo (fun U p=>tM 6 p.2 U) S.S.l 1)
def Om(d:Nat)(f:Fact)(acc:List Fact)(g:Fact):List Fact:=bif Nat.beq f.a g.b||(Nat.beq f.a d||Nat.beq g.b d)then acc else addFact acc ⟨f.a,f.k*g.k,g.b,f.k*g.c+f.c⟩
def AE(p:Fact→Bool)(F:List Fact):List Fact:=List.rec [] (fun f _ ih=>br ih (f::ih) (p f)) F
theorem IY(p:Fact→Bool): ∀(F:List Fact),AE p F=F.filter p
 |[]=>rfl
 |f::F=>by
  show br (AE p F) (f::AE p F) (p f)=_
  rw[IY p F,ar0]
  cases p f<;>rfl
def HP(F:List Fact)(d:Nat):List Fact:=
 let up:=AE (fun f=>Nat.beq f.a d) F
 (AE (fun f=>Nat.beq f.b d) F).foldl (fun acc f=>up.foldl (Om d f) acc) (AE (fun f=>br (br true false (Nat.beq f.b d)) false (Nat.beq f.a d)) F)
def ab4(F:List Fact)(U:Nat):List Nat:=
 (mo (fun(p:List Nat×Nat) f=>(let q:=bif p.2.testBit f.a then p else(f.a::p.1,p.2|||2^f.a)
  bif q.2.testBit f.b then q else(f.b::q.1,q.2|||2^f.b))) F ([],U)).1
def QL(nb U:Nat)(F:List Fact):List Fact:=
 let B:=F.drop (F.length-nb)
 let N:=F.take (F.length-nb)
 (ab4 N (mo (fun U f=>U|||2^f.a|||2^f.b) B U)).foldl HP N++B
def xk(un:Un)(nb:Nat)(S:St):St:=
 match un.live with
 |none=>S
 |some U=>(let S:={S with S:=⟨S.S.length,mr U S.S.l,S.S.ex⟩}
  bif S.S.ex then S else iU (stM S) fun U=>{S with F:=QL nb U S.F})
theorem IZ{θ:List Int}{U:Nat}{S:SL}{s:List V}(h:j8 θ S s):j8 θ ⟨S.length,mr U S.l,S.ex⟩ s:=⟨h.1,fun i hi=>by
 rcases xj (l:=S.l) (U:=U) (i:=i)with e|e
 ·show Has θ (look (mr U S.l) i) _
  rw[e];exact .any
 ·show Has θ (look (mr U S.l) i) _
  rw[e];exact h.2 i hi⟩
theorem On{θ:List Int}{l:List Fact}{f:Fact}(h:aM θ l)(hf:f.Ok θ):aM θ (addFact l f):=by
 unfold addFact
 split
 ·exact h
 ·intro g hg
  rcases ap8.1 hg with rfl|hg
  ·exact hf
  ·exact h g hg
theorem Cu{α β:Type}{p:β→Prop}{g:β→α→β}: ∀(l:List α) (acc:β),p acc→(∀acc a,a∈l→p acc→p (g acc a))→p (l.foldl g acc)
 |[],acc,h,_=>h
 |a::l,acc,h,hg=>Cu l _ (hg acc a (by simp) h) fun acc b hb=>hg acc b (by simp[hb])
theorem TE{θ:List Int}{acc:List Fact}{d:Nat}{f g:Fact}(h:aM θ acc)(hf:f.Ok θ)(hg:g.Ok θ)(e1:f.b=d)(e2:g.a=d):aM θ (Om d f acc g):=by
 unfold Om
 cases(Nat.beq f.a g.b||(Nat.beq f.a d||Nat.beq g.b d))with
 |true=>exact h
 |false=>
  obtain⟨x,y,h1,h2,h3⟩:=hf
  obtain⟨x',y',g1,g2,g3⟩:=hg
  rw[e2,←e1,h2]at g1
  obtain rfl:=apO g1
  refine On h ⟨x,y',h1,g2,?_⟩
  have:=aqG g3 (aqS f.k)
  simp only[Int.mul_add,←Int.mul_assoc]at this
  simp only[Int.natCast_mul]
  omega
theorem TG{θ:List Int}{F:List Fact}{d:Nat}(h:aM θ F):aM θ (HP F d):=by
 unfold HP
 simp only[IY]
 exact Cu (p:=aM θ) _ _ (fun f hf=>h f (aqW.1 hf).1) fun acc f hf ha=>Cu (p:=aM θ) _ _ ha fun acc g hg ha=>
  TE ha (h f (aqW.1 hf).1) (h g (aqW.1 hg).1) (ap9 (aqW.1 hf).2) (ap9 (aqW.1 hg).2)
theorem QM{θ:List Int}{nb U:Nat}{F:List Fact}(h:aM θ F):aM θ (QL nb U F):=by
 have key: ∀(l:List Nat) (N:List Fact),aM θ N→aM θ (l.foldl HP N):=by
  intro l
  induction l with
  |nil=>exact fun N h=>h
  |cons d l ih=>exact fun N h=>ih _ (TG h)
 intro f hf
 rcases aqr.1 hf with hf|hf
 ·exact key _ _ (fun f hf=>h f (arD hf)) f hf
 ·exact h f (arE hf)
theorem I0{θ:List Int}{un:Un}{nb:Nat}{S:St}{s:List V}{rows:List Row}(h:Ok θ S s rows):Ok θ (xk un nb S) s rows:=by
 unfold xk
 split
 ·exact h
 ·dsimp only
  cases S.S.ex with
  |true=>exact{h with bO:=IZ h.bO}
  |false=>rw[cond_false,iV];exact{h with bO:=IZ h.bO,facts:=QM h.facts}
def gP(t:Nat)(l:List (Nat×T)):List (Nat×T):=List.rec [] (fun p _ ih=>br (p::ih) ih (Nat.beq p.1 t)) l
theorem vk(t:Nat): ∀(l:List (Nat×T)) (i:Nat),look (gP t l) i=.any∨look (gP t l) i=look l i
 |[],i=>.inl rfl
 |p::l,i=>by
  show look (br (p::gP t l) (gP t l) (Nat.beq p.1 t)) i=_∨look (br (p::gP t l) (gP t l) (Nat.beq p.1 t)) i=_
  have out: ∀(l:List (Nat×T)),look (gP t l) t=.any:=by
   intro l
   induction l with
   |nil=>rfl
   |cons q l ih=>
    show look (br (q::gP t l) (gP t l) (Nat.beq q.1 t)) t=_
    cases hq:Nat.beq q.1 t with
    |true=>exact ih
    |false=>
     show look (q::gP t l) t=_
     rw[eY,hq]
     exact ih
  cases hp:Nat.beq p.1 t with
  |true=>
   obtain rfl:=ap9 hp
   show look (gP p.1 l) i=_∨look (gP p.1 l) i=_
   rw[eY]
   cases hb:Nat.beq p.1 i with
   |true=>obtain rfl:=ap9 hb;exact .inl (out l)
   |false=>exact vk _ l i
  |false=>
   show look (p::gP t l) i=_∨look (p::gP t l) i=_
   rw[eY,eY]
   cases hb:Nat.beq p.1 i with
   |true=>exact .inr rfl
   |false=>exact vk t l i
def DD(c:Operand)(S:St)(G:List Fact)(b:Bool):St:=
 match S with
 |⟨n,F,⟨m,l,x⟩,R⟩=>⟨n,bif x then F else G++F,⟨m,(match c with|.tmp t=>(t,.bool (some b) [] [])::gP t l|_=>l),x⟩,R⟩
theorem xl{θ:List Int}{c:Operand}{S:St}{G:List Fact}{b:Bool}{s:List V}{rows:List Row}(h:Ok θ S s rows)(hb:ax s c=.bool b)(hG:aM θ G):Ok θ (DD c S G b) s rows:=by
 obtain⟨n,F,⟨m,l,x⟩,R⟩:=S
 refine⟨h.zero,h.ng,(match x,h with|false,h=>eE hG h.facts|true,h=>h.facts),⟨h.bO.1,fun i hi=>?_⟩,h.di,h.rows⟩
 have hx:=h.bO.2 i hi
 cases c with
 |tmp t=>
  show Has θ (look ((t,.bool (some b) [] [])::gP t l) i) _
  rw[eY]
  cases ht:Nat.beq t i with
  |true=>
   obtain rfl:=ap9 ht
   have hb:bL s t=.bool b:=hb
   rw[hb]
   exact .bool (fun c hc=>apO hc) (fun _=>cr) (fun _=>cr)
  |false=>
   show Has θ (look (gP t l) i) _
   rcases vk t l i with e|e
   ·rw[e];exact .any
   ·rw[e];exact hx
 |_=>exact hx
def wh:Nat→Code→Bool
 |0,_=>false
 |n+1,c=>match c with
  |.region _ ops _=>ops.toList.all fun o=>match o.op with|.call q=>(match q.callee with|.builtin _=>true|_=>false)|_=>true
  |.seq a b=>wh n a&&wh n b
  |.cond _ a b=>wh n a&&wh n b
  |.block _ a=>wh n a
  |.loop _=>false
  |.rangeFunc _ _ _ _=>false
  |_=>true
def Vn:Code→Bool
 |.region _ _ _=>true
 |_=>false
def o5(P:Program)(L:Env)(n0:Nat)(un:Un):Nat→Nat→Code→St→Option dU
 |0,_,_,_=>none
 |f+1,nb,code,S=>
  match code with
  |.skip=>some [(.normal,S)]
  |.label _=>some [(.normal,S)]
  |.exit id=>some [(.exit id,S)]
  |.ret=>some [(.ret,if Nat.beq n0 0||un.fg then S else gf S ((List.range S.R.length).drop n0++(List.range S.R.length).drop n0))]
  |.region _ ops draw=>(match AF P L ops draw (gf S (Gv L S ops.toList))with
   |none=>none
   |some l=>mM (fun S k=>Gw (xk un nb S) k) l fun l=>some (l.map fun S=>(.normal,S)))
  |.seq x y=>(match o5 P L n0 un f (if Vn x then nb else S.F.length) x S with
   |none=>none
   |some o=>(match fF o with
    |[]=>some (others o)
    |[N]=>(o5 P L n0 un f nb y N).map (others o++ ·)
    |N::l=>if Vn x||(un.each&&wh 30 y)then(xm (o5 P L n0 un f nb y) (N::l)).map (others o++ ·)else Gw (lP un.hs n0 S.ng S.F N l) fun J=>if(N::l).all (within n0 S.ng S.F.length J)then Gw (xk un nb J) fun J=>(o5 P L n0 un f nb y J).map (others o++ ·)else none))
  |.cond c y z=>(match oT S.S c with
   |.bool (some true) yf _=>o5 P L n0 un f nb y (DD c S yf true)
   |.bool (some false) _ nf=>o5 P L n0 un f nb z (DD c S nf false)
   |.bool none yf nf=>(match(if E9 S.F yf then some []else o5 P L n0 un f nb y (DD c S yf true)),(if E9 S.F nf then some []else o5 P L n0 un f nb z (DD c S nf false))with
    |some a,some b=>some (a++b)
    |_,_=>none)
   |_=>none)
  |.block id x=>(o5 P L n0 un f nb x S).map (so id)
  |.loop x=>(let S:=gf S (E8 S (rK 60 x))
   Vl un (un.ex||un.pre&&!loops 60 x) (o5 P L n0 un f S.F.length x) n0 S)
  |_=>none
section
variable {P : Program} {L : Env} {θ : List Int} {S : St} {s : List V} {rows : List Row} {n0 : Nat} {un : Un} {Q : Exit → KS}
theorem uy{m nB:Nat}{J N:St}(h:within n0 m nB J N=true)(hO:Ok θ N s rows): ∃s' ad,Ok (gQ θ m (pZ n0 m J N).1) J s' ad∧Le n0 s rows s' ad:=QN h hO
theorem kV{code:Code}: ∀(l:List Nat) (S:St) (s:List V) (rows:List Row),Ok θ S s rows→(∀s' ad,Ok θ (gf S l) s' ad→aS P n0 code Q s' ad)→aS P n0 code Q s rows
 |[],S,s,rows,hO,hk=>hk s rows hO
 |i::l,S,s,rows,hO,hk=>by
  simp only[gf]at hk
  split at hk
  ·rename_i S' hS
   exact LS hS hO fun s' ad h=>kV l S' s' ad h hk
  ·exact kV l S s rows hO hk
theorem p0{K:KS}(hJ:Oo n0 K): ∀(l:List Nat) (S:St) (s:List V) (rows:List Row),Ok θ S s rows→(∀s' ad,Ok θ (gf S l) s' ad→K s' ad)→K s rows
 |[],S,s,rows,hO,hk=>hk s rows hO
 |i::l,S,s,rows,hO,hk=>by
  simp only[gf]at hk
  split at hk
  ·rename_i S' hS
   exact I1 hJ hS hO fun s' ad h=>p0 hJ l S' s' ad h hk
  ·exact p0 hJ l S s rows hO hk
theorem eL: ∀{o:dU} {N:St},N∈fF o↔(Ex.normal,N)∈o
 |[],N=>by simp[fF]
 |(.normal,S)::l,N=>by simp[fF,eL (o:=l)]
 |(.exit id,S)::l,N=>by simp[fF,eL (o:=l)]
 |(.ret,S)::l,N=>by simp[fF,eL (o:=l)]
theorem dq: ∀{o:dU} {e:Ex} {N:St},e≠.normal→(e,N)∈o→(e,N)∈others o
 |[],_,_,_,h=>by simp at h
 |(.normal,S)::l,e,N,bw,h=>by
  rcases ap8.1 h with h|h
  ·exact absurd (aq7 h).1 bw
  ·show(e,N)∈others l
   exact dq bw h
 |(.exit id,S)::l,e,N,bw,h=>by
  rcases ap8.1 h with h|h
  ·rw[h];exact aqT
  ·exact aqF _ (dq bw h)
 |(.ret,S)::l,e,N,bw,h=>by
  rcases ap8.1 h with h|h
  ·rw[h];exact aqT
  ·exact aqF _ (dq bw h)
theorem Gx{id:Nat}: ∀{o:dU} {e:Ex} {N:St},(e,N)∈o→(match e with|.exit j=>if j=id then(Ex.normal,N)else(Ex.exit j,N)|e=>(e,N))∈so id o
 |[],_,_,h=>by simp at h
 |(e0,S)::l,e,N,h=>by
  rcases ap8.1 h with h|h
  ·obtain⟨rfl,rfl⟩:=aq7 h
   cases e with
   |exit j=>
    simp only[so]
    by_cases hj:j=id
    ·rw[if_pos hj,if_pos (by simpa using hj)];exact aqT
    ·rw[if_neg hj,if_neg (by simpa using hj)];exact aqT
   |normal=>exact aqT
   |ret=>exact aqT
  ·have:=Gx (id:=id) h
   cases e0 with
   |exit j=>simp only[so];exact aqF _ this
   |normal=>exact aqF _ this
   |ret=>exact aqF _ this
def uz(θ:List Int)(o:dU)(Q:Exit→KS):Prop:= ∀e N,(e,N)∈o→ ∀z s rows,Ok (θ++z) N s rows→Q (Oi e) s rows
theorem Ok.more(h:Ok θ S s rows){G:List Fact}(hG:aM θ G):Ok θ {S with F:=G++S.F} s rows:=⟨h.zero,h.ng,eE hG h.facts,h.bO,h.di,h.rows⟩
theorem uz.pre{z:List Int}{o:dU}(h:uz θ o Q):uz (θ++z) o Q:=fun e N hm z' s rows hO=>h e N hm (z++z') s rows (by rw[←ap3];exact hO)
def Fa(ms:IT)(θ:List Int):Nat:=
 match ms with
 |.none=>0
 |.up h g c=>((θ[g]?).getD 0+c+1-(θ[h]?).getD 0).toNat
 |.down h c=>((θ[h]?).getD 0+c+1).toNat
theorem Gy{m nB:Nat}{J N:St}(h:within n0 m nB J N=true):J.ng=m+(pZ n0 m J N).1.length:=by
 simp only[within,MY,apP,aqi]at h
 exact h.2.2.1
theorem MZ{x:Code}{m nB:Nat}{J:St}{o:dU}(hm:θ.length=m)(hJ: ∃z s' ad,Ok (θ++z) J s' ad∧Le n0 s rows s' ad)(hr:Ct n0 m nB J (fF o)=true)
  (ih: ∀z s rows Q,Ok (θ++z) J s rows→uz (θ++z) o Q→aS P n0 x Q s rows) (hQ:uz θ (others o) Q):aS P n0 (.loop x) Q s rows:=by
 obtain⟨z0,s0,AG,I2,afE⟩:=hJ
 obtain⟨ms,hms⟩: ∃ms,∀N∈fF o,IU m ms N (pZ n0 m J N).1=true∧within n0 m nB J N=true:=by
  unfold Ct at hr
  split at hr
  ·rename_i he;exact⟨.none,fun N hN=>by rw[he]at hN;simp at hN⟩
  ·rename_i N l he
   dsimp only at hr
   exact⟨_,fun N hN=>by have:=ap1.1 hr N hN;simpa using this⟩
 refine yE (α:=List V×List Row×Nat) (fun x=>x.1) (fun x=>x.2.1) (fun x=> ∃z,Ok (θ++z) J x.1 x.2.1∧Fa ms (θ++z)=x.2.2) (fun x=>x.2.2) (s0,AG,Fa ms (θ++z0)) ⟨z0,I2,rfl⟩ afE ?_
 ·rintro⟨s1,fk,k⟩ ⟨z,hO,hk⟩ K hK
  simp only at hO hk⊢
  refine ih z s1 fk _ hO fun e N hN z' s' ad cF=>?_
  cases e with
  |normal=>
   obtain⟨h1,h2⟩:=hms N (eL.2 hN)
   obtain⟨s2,ar,M0,hle⟩:=uy h2 cF
   obtain⟨z2,Gz⟩:=AH (m:=m) (μ:=(pZ n0 m J N).1) (θ:=θ++z++z') (θ':=θ) (z:=z++z') (by rw[ap3]) (by omega)
   rw[Gz]at M0
   refine hK (s2,ar,Fa ms (θ++z2)) s' ad ⟨z2,M0,rfl⟩ ?_ hle
   show Fa ms (θ++z2)<k
   rw[←hk,←Gz]
   have hmm:m≤(θ++z++z').length:=by simp;omega
   have val: ∀{h a:Nat} {d:Int} {xv:Int},¬h<m→(pZ n0 m J N).1[h-m]?=some (a,d)→(θ++z++z')[a]?=some xv→((gQ (θ++z++z') m (pZ n0 m J N).1)[h]?).getD 0=xv+d:=by
    intro h a d xv hh hH hx
    unfold gQ
    have hl:((θ++z++z').take m).length=m:=by rw[apT];omega
    rw[aqL (by omega),hl,apZ,hH]
    simp only[aqU,arj,hx]
   have low: ∀{g:Nat},g<m→((gQ (θ++z++z') m (pZ n0 m J N).1)[g]?).getD 0=((θ++z++z')[g]?).getD 0:=by
    intro g hg
    unfold gQ
    rw[ap7 (by rw[apT];omega),aqc,if_pos hg]
   have eW: ∀{g:Nat},g<(θ++z).length→((θ++z++z')[g]?).getD 0=((θ++z)[g]?).getD 0:=by
    intro g hg
    rw[ap7 hg]
   unfold IU at h1
   split at h1
   ·cases h1
   ·rename_i h g c
    simp only[apP,aqC]at h1
    obtain⟨g1,g2,g3,g4⟩:=h1
    have hgm:g<m:=by simpa[Nat.blt_eq]using g1
    have YY: ¬h<m:=by
     intro hh
     rw[show Nat.blt h m=true by simpa[Nat.blt_eq]using hh]at g2
     cases g2
    split at g3
    ·rename_i a d hH
     simp only[apP,aqi,decide_eq_true_eq]at g3
     obtain⟨rfl,hd⟩:=g3
     have QO:a<(θ++z).length:=by
      have:=hO.ng
      have hJn:=Gy h2
      have aO:=(apN.1 hH).1
      omega
     obtain⟨xv,hx⟩:=aC (l:=θ++z++z') (i:=a) (by simp at QO⊢;omega)
     obtain⟨yv,hy⟩:=aC (l:=θ++z++z') (i:=g) (by omega)
     have p6:=wg cF.zero cF.facts _ _ _ _ _ _ _ g4 hx hy
     simp only[Fa]
     rw[val YY hH hx,low hgm,←eW QO,←eW (show g<(θ++z).length by simp;omega),hx,hy]
     simp only[arj]
     omega
    ·cases g3
   ·rename_i h c
    simp only[apP,aqC]at h1
    obtain⟨g2,g3,g4⟩:=h1
    have YY: ¬h<m:=by
     intro hh
     rw[show Nat.blt h m=true by simpa[Nat.blt_eq]using hh]at g2
     cases g2
    split at g3
    ·rename_i a d hH
     simp only[apP,aqi,decide_eq_true_eq]at g3
     obtain⟨rfl,hd⟩:=g3
     have QO:a<(θ++z).length:=by
      have:=hO.ng
      have hJn:=Gy h2
      have aO:=(apN.1 hH).1
      omega
     obtain⟨xv,hx⟩:=aC (l:=θ++z++z') (i:=a) (by simp at QO⊢;omega)
     have p6:=wg cF.zero cF.facts _ _ _ _ _ _ _ g4 cF.zero hx
     simp only[Fa]
     rw[val YY hH hx,←eW QO,hx]
     simp only[arj]
     omega
    ·cases g3
  |exit id=>exact hQ (.exit id) N (dq (by simp) hN) (z++z') s' ad (by rw[←ap3];exact cF)
  |ret=>exact hQ .ret N (dq (by simp) hN) (z++z') s' ad (by rw[←ap3];exact cF)
theorem y7{H:Hs}{body:St→Option dU}{x:Code}{m:Nat}{B:List Fact}(ih: ∀S o,body S=some o→ ∀(θ:List Int) (s:List V) (rows:List Row) (Q:Exit→KS),Ok θ S s rows→uz θ o Q→aS P n0 x Q s rows): ∀(k:Nat) (S:St) (o:dU),o4 H body n0 m B k S=some o→
  ∀(θ0 z:List Int) (s:List V) (rows:List Row) (Q:Exit→KS),θ0.length≤m→Ok (θ0++z) S s rows→uz θ0 o Q→sq P n0 x Q k s rows
 |0,S,o,h=>by simp[o4]at h
 |k+1,S,o,h=>by
  intro θ0 z s rows Q hm hO hQ
  simp only[o4]at h
  split at h
  ·cases h
  ·rename_i ob hb
   have key: ∀{oy:dU} {J:St},o4 H body n0 m B k J=some oy→o=others ob++oy→(∀N∈fF ob,∀z' s' ad,Ok ((θ0++z)++z') N s' ad→ ∃z2 s2 ar,Ok (θ0++z2) J s2 ar∧Le n0 s' ad s2 ar)→sq P n0 x Q (k+1) s rows:=by
    intro oy J hy e hN
    subst e
    refine ih S ob hb (θ0++z) s rows _ hO fun ex N nu z' s' ad cF=>?_
    cases ex with
    |normal=>
     obtain⟨z2,s2,ar,h1,h2⟩:=hN N (eL.2 nu) z' s' ad cF
     have hr:=y7 ih k J oy hy θ0 z2 s2 ar Q hm h1 fun e' N' j3 z3 s3 rL h3=>hQ e' N' (aq0 _ j3) z3 s3 rL h3
     show sq P n0 x Q k s' ad
     cases k with
     |zero=>exact hr.elim
     |succ k=>exact DE h2 hr
    |exit id=>exact hQ (.exit id) N (aqw _ (dq (by simp) nu)) (z++z') s' ad (by rw[←ap3];exact cF)
    |ret=>exact hQ .ret N (aqw _ (dq (by simp) nu)) (z++z') s' ad (by rw[←ap3];exact cF)
   split at h
   ·rename_i hn
    obtain rfl:=apO h
    refine ih S _ hb (θ0++z) s rows _ hO fun ex N nu z' s' ad cF=>?_
    cases ex with
    |normal=>have:=eL.2 nu;rw[hn]at this;simp at this
    |exit id=>exact hQ (.exit id) N nu (z++z') s' ad (by rw[←ap3];exact cF)
    |ret=>exact hQ .ret N nu (z++z') s' ad (by rw[←ap3];exact cF)
   ·rename_i N hn
    obtain⟨oy,h1,h2⟩:=map_some h
    subst h2
    refine ih S ob hb (θ0++z) s rows _ hO fun ex N' nu z' s' ad cF=>?_
    cases ex with
    |normal=>
     have:=eL.2 nu
     rw[hn]at this
     obtain rfl:=aqn.1 this
     exact y7 ih k N' oy h1 θ0 (z++z') s' ad Q hm (by rw[←ap3];exact cF) fun e' N2 j3 z3 s3 rL h3=>hQ e' N2 (aq0 _ j3) z3 s3 rL h3
    |exit id=>exact hQ (.exit id) N' (aqw _ (dq (by simp) nu)) (z++z') s' ad (by rw[←ap3];exact cF)
    |ret=>exact hQ .ret N' (aqw _ (dq (by simp) nu)) (z++z') s' ad (by rw[←ap3];exact cF)
   ·rename_i N l _ hn
    split at h
    ·rename_i hall
     obtain⟨oy,h1,h2⟩:=map_some h
     refine key h1 h2.symm fun N' QP z' s' ad cF=>?_
     rw[hn]at QP
     obtain⟨s2,ar,q1,q2⟩:=uy (ap1.1 hall N' QP) cF
     obtain⟨z2,Gz⟩:=AH (m:=m) (μ:=(pZ n0 m (lP H n0 m B N l) N').1) (θ:=(θ0++z)++z') (θ':=θ0) (z:=z++z') (by rw[ap3]) hm
     rw[Gz]at q1
     exact⟨z2,s2,ar,q1,q2⟩
    ·cases h
theorem uA(hL:Env.Ok P L): ∀(f nb:Nat) (code:Code) (S:St) (o:dU),o5 P L n0 un f nb code S=some o→ ∀(θ:List Int) (s:List V) (rows:List Row) (Q:Exit→KS),Ok θ S s rows→uz θ o Q→aS P n0 code Q s rows:=by
 intro f
 induction f with
 |zero=>intro nb code S o h;simp[o5]at h
 |succ f ih=>
  intro nb code S o h θ s rows Q hO hQ
  have nil: ∀{N:St} {e:Ex},Ok θ N s rows→(e,N)∈o→Q (Oi e) s rows:=fun hN hm=>hQ _ _ hm [] s rows (by simpa using hN)
  cases code<;>simp only[o5]at h
  case skip=>obtain rfl:=apO h;exact wY (nil (e:=.normal) hO (by simp))
  case label l=>obtain rfl:=apO h;exact QQ (nil (e:=.normal) hO (by simp))
  case exit id=>obtain rfl:=apO h;exact Cn (nil (e:=.exit id) hO (by simp))
  case ret=>
   obtain rfl:=apO h
   by_cases hn:(Nat.beq n0 0||un.fg)=true
   ·rw[if_pos hn]at hQ nil
    exact pT (nil (e:=.ret) hO (by simp))
   ·rw[if_neg hn]at hQ
    exact kV _ S s rows hO fun s' ad cF=>pT (hQ .ret _ aqT [] s' ad (by simpa using cF))
  case region id ops draw=>
   obtain⟨Ss,h1,rfl⟩: ∃Ss,AF P L ops draw (gf S (Gv L S ops.toList))=some Ss∧Ss.map (fun S'=>(Ex.normal,xk un nb S'))=o:=by
    split at h
    ·cases h
    ·rename_i l hl
     rw[Fb (g:=xk un nb) (fun S k=>we _ _)]at h
     exact⟨l,hl,by rw[←apO h,List.map_map];rfl⟩
   refine kV _ S s rows hO fun s' ad cF=>QR hL h1 cF fun S' hS z s2 ar h2=>?_
   exact hQ .normal (xk un nb S') (aqd.2 ⟨S',hS,rfl⟩) z s2 ar (I0 h2)
  case seq x y=>
   split at h
   ·cases h
   ·rename_i ox hx
    have key: ∀{oy:dU} {J:St},o5 P L n0 un f nb y J=some oy→o=others ox++oy→(∀N∈fF ox,∀z s' ad,Ok (θ++z) N s' ad→ ∃z' s2 ar,Ok (θ++z') J s2 ar∧Le n0 s' ad s2 ar)→aS P n0 (.seq x y) Q s rows:=by
     intro oy J hy e hN
     subst e
     refine b8 fun K hK=>ih _ x S ox hx θ s rows _ hO fun ex N hm z s' ad cF=>?_
     cases ex with
     |normal=>
      obtain⟨z',s2,ar,h1,h2⟩:=hN N (eL.2 hm) z s' ad cF
      exact hK s' ad (DE h2 (ih nb y J oy hy (θ++z') s2 ar Q h1 fun e' N' nu z2 s3 rL h3=>hQ e' N' (aq0 _ nu) (z'++z2) s3 rL (by rw[←ap3];exact h3)))
     |exit id=>exact hQ (.exit id) N (aqw _ (dq (by simp) hm)) z s' ad cF
     |ret=>exact hQ .ret N (aqw _ (dq (by simp) hm)) z s' ad cF
    split at h
    ·rename_i hn
     obtain rfl:=apO h
     refine b8 fun K hK=>ih _ x S ox hx θ s rows _ hO fun ex N hm z s' ad cF=>?_
     cases ex with
     |normal=>have:=eL.2 hm;rw[hn]at this;simp at this
     |exit id=>exact hQ (.exit id) N (dq (by simp) hm) z s' ad cF
     |ret=>exact hQ .ret N (dq (by simp) hm) z s' ad cF
    ·rename_i N hn
     obtain⟨oy,h1,h2⟩:=map_some h
     subst h2
     refine b8 fun K hK=>ih _ x S ox hx θ s rows _ hO fun ex N' hm z s' ad cF=>?_
     cases ex with
     |normal=>
      have:=eL.2 hm
      rw[hn]at this
      obtain rfl:=aqn.1 this
      exact hK s' ad (ih nb y N' oy h1 (θ++z) s' ad Q cF fun e' N2 nu z2 s3 rL h3=>hQ e' N2 (aq0 _ nu) (z++z2) s3 rL (by rw[←ap3];exact h3))
     |exit id=>exact hQ (.exit id) N' (aqw _ (dq (by simp) hm)) z s' ad cF
     |ret=>exact hQ .ret N' (aqw _ (dq (by simp) hm)) z s' ad cF
    ·rename_i N l _ hn
     split at h
     ·obtain⟨oy,h1,h2⟩:=map_some h
      subst h2
      refine b8 fun K hK=>ih _ x S ox hx θ s rows _ hO fun ex N' hm z s' ad cF=>?_
      cases ex with
      |normal=>
       have I3:=eL.2 hm
       rw[hn]at I3
       obtain⟨oN,q1,q2⟩:=td h1 N' I3
       exact hK s' ad (ih nb y N' oN q1 (θ++z) s' ad Q cF fun e' N2 nu z2 s3 rL h3=>hQ e' N2 (aq0 _ (q2 _ nu)) (z++z2) s3 rL (by rw[←ap3];exact h3))
      |exit id=>exact hQ (.exit id) N' (aqw _ (dq (by simp) hm)) z s' ad cF
      |ret=>exact hQ .ret N' (aqw _ (dq (by simp) hm)) z s' ad cF
     rw[we]at h
     split at h
     ·rename_i hall
      rw[we]at h
      obtain⟨oy,h1,h2⟩:=map_some h
      refine key h1 h2.symm fun N' QP z s' ad cF=>?_
      rw[hn]at QP
      obtain⟨s2,ar,q1,q2⟩:=uy (ap1.1 hall N' QP) cF
      obtain⟨z',YZ⟩:=AH (m:=S.ng) (μ:=(pZ n0 S.ng (lP un.hs n0 S.ng S.F N l) N').1) (θ:=θ++z) (θ':=θ) rfl (by rw[hO.ng];exact aqf _)
      rw[YZ]at q1
      exact⟨z',s2,ar,I0 q1,q2⟩
     ·cases h
  case cond c y z=>
   have hc:=bJ hO.cx c
   generalize I4:ax s c=vc at hc
   split at h
   ·rename_i yf nf he
    rw[he]at hc
    cases hc with
    |bool p q r=>
     have:=p _ rfl
     subst this
     exact nS I4 (fun _=>ih nb y _ o h θ s rows Q (xl hO I4 (q rfl)) hQ) (fun h=>by cases h)
   ·rename_i yf nf he
    rw[he]at hc
    cases hc with
    |bool p q r=>
     have:=p _ rfl
     subst this
     exact nS I4 (fun h=>by cases h) (fun _=>ih nb z _ o h θ s rows Q (xl hO I4 (r rfl)) hQ)
   ·rename_i yf nf he
    rw[he]at hc
    split at h
    ·rename_i a b ha hb
     obtain rfl:=apO h
     cases hc with
     |bool p q r=>
      refine nS I4 (fun e=>?_) (fun e=>?_)
      ·split at ha
       ·rename_i hr;exact absurd (q e) (DB hO.zero hO.facts hr)
       ·exact ih nb y _ a ha θ s rows Q (xl hO (by rw[I4,e]) (q e)) fun e N hm=>hQ e N (aqw _ hm)
      ·split at hb
       ·rename_i hr;exact absurd (r e) (DB hO.zero hO.facts hr)
       ·exact ih nb z _ b hb θ s rows Q (xl hO (by rw[I4,e]) (r e)) fun e N hm=>hQ e N (aq0 _ hm)
    ·cases h
   ·cases h
  case block id x=>
   obtain⟨ox,hx,rfl⟩:=map_some h
   refine ue (ih _ x S ox hx θ s rows _ hO fun e N hm z s' ad cF=>?_)
   have hb:=Gx (id:=id) hm
   cases e with
   |normal=>exact hQ .normal N hb z s' ad cF
   |ret=>exact hQ .ret N hb z s' ad cF
   |exit j=>
    simp only[Oi,jv]
    by_cases hj:j=id
    ·rw[if_pos hj]
     simp only[if_pos hj]at hb
     exact hQ .normal N hb z s' ad cF
    ·rw[if_neg hj]
     simp only[if_neg hj]at hb
     exact hQ (.exit j) N hb z s' ad cF
  case loop x=>
   refine kV (E8 S (rK 60 x)) S s rows hO fun s rows hO=>?_
   generalize gf S (E8 S (rK 60 x))=S at h hO
   have enter: ∀{J:St},within n0 S.ng S.F.length J S=true→ ∃z s' ad,Ok (θ++z) J s' ad∧Le n0 s rows s' ad:=by
    intro J hw
    obtain⟨s2,ar,q1,q2⟩:=uy hw hO
    obtain⟨z',YZ⟩:=AH (m:=S.ng) (μ:=(pZ n0 S.ng J S).1) (θ:=θ) (θ':=θ) (z:=[]) (by simp) (by rw[hO.ng];exact aqf _)
    rw[YZ]at q1
    exact⟨z',s2,ar,q1,q2⟩
   have one:HO un (o5 P L n0 un f S.F.length x) n0 S=some o→aS P n0 (.loop x) Q s rows:=by
    intro h
    unfold HO at h
    split at h
    ·rename_i o3 h3
     obtain rfl:=apO h
     obtain⟨J,o2,h2,hw,rfl⟩:=Ol h3
     simp only[sZ,apP]at hw
     exact MZ hO.ng (enter hw.1) hw.2 (fun z s rows Q cF QS=>ih _ x _ o2 h2 (θ++z) s rows Q cF QS) hQ
    split at h
    ·cases h
    ·rename_i o1 h1
     split at h
     ·rename_i hn
      obtain rfl:=apO h
      refine cC 0 fun KL _=>ih _ x S o1 h1 θ s rows _ hO fun e N hm z s' ad cF=>?_
      cases e with
      |normal=>have:=eL.2 hm;rw[hn]at this;simp at this
      |exit id=>exact hQ (.exit id) N hm z s' ad cF
      |ret=>exact hQ .ret N hm z s' ad cF
     ·rw[we]at h
      obtain⟨J,o2,h2,hw,rfl⟩:=BD h
      simp only[sZ,apP]at hw
      exact MZ hO.ng (enter hw.1) hw.2 (fun z s rows Q cF QS=>ih _ x _ o2 h2 (θ++z) s rows Q cF QS) hQ
   have two:o4 un.hs (o5 P L n0 un f S.F.length x) n0 S.ng S.F un.rounds S=some o→aS P n0 (.loop x) Q s rows:=by
    intro h c a w hn bX rd ju
    exact wpIn_loop_rounds un.rounds (qZ hn ju un.rounds s rows a w (y7 (fun S o h=>ih _ x S o h) un.rounds S o h θ [] s rows Q (by rw[hO.ng];exact aqf _) (by simpa using hO) hQ) bX)
   unfold Vl at h
   split at h<;>split at h
   ·obtain rfl:=apO h;rename_i hu;exact two hu
   ·exact one h
   ·obtain rfl:=apO h;rename_i hu;exact one hu
   ·exact two h
  all_goals cases h
end
end
end Go.Ck
set_option linter.unusedSectionVars false
namespace Go.Ck
noncomputable section
open Go.VS
variable [eb]
def Vo(P:Program)(S:St)(r:ResultVar):Option T:=
 match r with
 |.tmp t=>some (bN S.S t)
 |.cell a t=>loadT P S.F S.R t (bN S.S a)
def HQ(P:Program)(S:St):List ResultVar→Option (List T)
 |[]=>some []
 |r::rs=>(match Vo P S r,HQ P S rs with
  |some t,some l=>some (t::l)
  |_,_=>none)
def xn(P:Program)(S:St)(rs:List ResultVar):Option T:=
 match HQ P S rs with
 |some [t]=>some t
 |some l=>some (.aB l)
 |none=>none
def I5(e:fu)(q:Ex×St):St:=
 match q.1,e.rows with
 |.normal,_::_=>gf q.2 ((List.range q.2.R.length).drop e.rows.length++(List.range q.2.R.length).drop e.rows.length)
 |_,_=>q.2
def DF(P:Program)(e:fu)(rs:List ResultVar)(q:Ex×St):Bool:=
 match q.1 with
 |.exit _=>false
 |_=>(let S:=I5 e q;match xn P S rs with
  |some t=>(match e.rows with
   |[]=>!notNil e.ad&&(e.res.pure&&(e.res.closed&&kJ S.F S.R 5 t e.res))
   |_=>Nat.beq e.ad.length e.rows.length&&(e.res.pure&&(e.ad.all T.mu&&MY e.rows.length 1 0 [] ((List.range e.rows.length).map some) {S with S:=.one t} ⟨1,[],.one e.res,e.ad.map .cells⟩)))
  |none=>false)
def I6:Nat→List T→List (Nat×T)
 |_,[]=> []
 |n,t::l=>(n,t)::I6 (n+1) l
theorem I7: ∀{l:List T} {n i:Nat},look (I6 n l) (n+i)=(l[i]?).getD .any
 |[],n,i=>by simp[I6];rfl
 |t::l,n,0=>by
  show look ((n,t)::I6 (n+1) l) (n+0)=_
  rw[eY]
  simp
 |t::l,n,i+1=>by
  show look ((n,t)::I6 (n+1) l) (n+(i+1))=_
  have hb:Nat.beq n (n+(i+1))=false:=by
   cases hb:Nat.beq n (n+(i+1))with
   |true=>have:=ap9 hb;omega
   |false=>rfl
  rw[eY,hb]
  have:=I7 (l:=l) (n:=n+1) (i:=i)
  rw[show n+1+i=n+(i+1) by omega]at this
  simpa using this
def SL.args(l:List T)(k:Nat)(x:Bool:=false):SL:=⟨l.length+k,I6 0 l,x⟩
theorem GA{θ:List Int}{ts:List T}{vs:List V}{k:Nat}{x:Bool}(h:bg θ ts vs):j8 θ (.args ts k x) (vs++List.replicate k .aa):=⟨by simp[SL.args,h.1],fun i hi=>by
 show Has θ (look (I6 0 ts) i) _
 have:=I7 (l:=ts) (n:=0) (i:=i)
 rw[aq6]at this
 rw[this]
 cases ht:ts[i]? with
 |none=>exact .any
 |some t=>
  obtain⟨v,hv⟩:=aC (l:=vs) (i:=i) (by rw[←h.1];exact(apN.1 ht).1)
  rw[gb,ap7 (apN.1 hv).1,hv]
  exact h.2 i t v ht hv⟩
def y8(e:fu)(nt:Nat):St:=uB (List.range e.rows.length) (AI ((List.range e.args.length).map some) [] ⟨1,[],.args e.args (nt-e.args.length) e.un.ex,e.rows.map .cells⟩)
def HR(P:Program)(L:Env)(e:fu):Bool:=
 match P.funcs[e.f]? with
 |some fn=>!(fn.name== "runtime.NumGoroutine")&&(match fn.body with
  |some code=>(match iU (IX code fn.results.toList) fun U=>o5 P L e.rows.length {e.un with live:=some U} 200 0 code (y8 e fn.ntmps)with
   |some o=>o.all (DF P e fn.results.toList)
   |none=>false)
  |none=>false)
 |none=>false
section
variable {P : Program} {L : Env} {θ : List Int} {S : St} {s : List V} {rows : List Row}
theorem enters_of{f:FuncId}{fn:Func}{code:Code}(hf:P.funcs[f]?=some fn)(hn:(fn.name== "runtime.NumGoroutine")=false)(hb:fn.body=some code):Enters P f:=by
 intro args w
 have hn': ¬fn.name= "runtime.NumGoroutine":=by simpa using hn
 simp[callFunc,hf,hn',hb]
theorem Wz(hO:Ok θ S s rows){r:ResultVar}{t:T}(h:Vo P S r=some t){k:V→Prop}(hk: ∀v,Has θ t v→k v):xo P s rows r k:=by
 cases r with
 |tmp x=>obtain rfl:=apO h;exact hk _ (hO.bO.bN x)
 |cell a x=>
  have:=Cv (P:=P) (F:=S.F) (E:=S.S) (R:=S.R) (id:=0) (t:=x) (x:=.tmp a) h θ s rows (fun v _=>k v) hO.cx
  simp only[xo]
  have h2: ∀hf,bF P false (.load x (.tmp a)) 0 s rows (fun v _=>k v):=fun hf=>this hf fun v ad hv _=>hk v hv
  simp only[bF,ax]at h2
  have h3:=Cv (P:=P) (F:=S.F) (E:=S.S) (R:=S.R) (id:=rows.length) (t:=x) (x:=.tmp a) h θ s rows (fun v _=>k v) hO.cx (.inl rfl) fun v ad hv _=>hk v hv
  simpa only[bF,ax]using h3
theorem Fc(hO:Ok θ S s rows): ∀{rs:List ResultVar} {ts:List T} {k:List V→Prop},HQ P S rs=some ts→(∀vs,bg θ ts vs→k vs)→AJ P s rows rs k
 |[],ts,k,h,hk=>by obtain rfl:=apO h;exact hk [] ⟨rfl,fun i t v h=>by simp at h⟩
 |r::rs,ts,k,h,hk=>by
  simp only[HQ]at h
  split at h
  ·rename_i t l ht hl
   obtain rfl:=apO h
   refine Wz hO ht fun v hv=>Fc hO hl fun vs dV=>hk (v::vs) ⟨by simp[dV.1],fun i a b p q=>?_⟩
   cases i with
   |zero=>simp at p q;subst p;subst q;exact hv
   |succ i=>exact dV.2 i a b (by simpa using p) (by simpa using q)
  ·cases h
theorem I8(hO:Ok θ S s rows){rs:List ResultVar}{t:T}{k:V→Prop}(h:xn P S rs=some t)(hk: ∀v,Has θ t v→k v):pQ P s rows rs k:=by
 unfold xn at h
 unfold pQ
 split at h
 ·rename_i t' h1
  obtain rfl:=apO h
  refine Fc hO h1 fun vs dV=>?_
  match vs,dV with
  |[v],dV=>exact hk v (dV.2 0 _ v rfl rfl)
  |[],dV=>have:=dV.1;simp at this
  |_::_::_,dV=>have:=dV.1;simp at this
 ·rename_i l bw h1
  obtain rfl:=apO h
  refine Fc hO h1 fun vs dV=>?_
  match vs,dV with
  |[v],dV=>
   match l,dV with
   |[t],dV=>exact(bw t rfl).elim
   |[],dV=>have:=dV.1;simp at this
   |_::_::_,dV=>have:=dV.1;simp at this
  |[],dV=>exact hk _ (.aB dV.1 dV.2)
  |_::_::_,dV=>exact hk _ (.aB dV.1 dV.2)
 ·cases h
theorem I9: ∀{A:List (List T)} {ad:List Row},A.length=ad.length→(∀(i:Nat) l r,A[i]?=some l→ad[i]?=some r→ ∃cs,r=Row.live cs∧bg θ l cs)→ ∃dr,ad=cQ dr∧DG θ A dr
 |[],[],_,_=>⟨[],rfl,rfl,fun i t v h=>by simp at h⟩
 |[],_::_,h,_=>by simp at h
 |_::_,[],h,_=>by simp at h
 |l::A,r::ad,hlen,each=>by
  obtain⟨cs,rfl,gq⟩:=each 0 l r rfl rfl
  obtain⟨dr,rfl,h2⟩:=I9 (A:=A) (ad:=ad) (by simpa using hlen) fun i l r p q=>each (i+1) l r (by simpa using p) (by simpa using q)
  refine⟨cs::dr,rfl,by simp[h2.1],fun i t v p q=>?_⟩
  cases i with
  |zero=>simp at p q;subst p;subst q;exact gq
  |succ i=>exact h2.2 i t v (by simpa using p) (by simpa using q)
theorem Ja(hL:Env.Ok P L){e:fu}(h:HR P L e=true):e.Ok P:=by
 unfold HR at h
 split at h
 ·rename_i fn hf
  simp only[apP,aqC]at h
  obtain⟨hn,h⟩:=h
  split at h
  ·rename_i code hb
   rw[iV]at h
   split at h
   ·rename_i o ho
    have p6:=enters_of hf hn hb
    intro args rws ha hr
    have Za: ∃z,Ok ([0]++z) (y8 e fn.ntmps) (args++List.replicate (fn.ntmps-args.length) .aa) (cQ rws):=by
     have h0:Ok [0] ⟨1,[],.args e.args (fn.ntmps-e.args.length) e.un.ex,e.rows.map .cells⟩ (args++List.replicate (fn.ntmps-args.length) .aa) (cQ rws):=by
      refine⟨rfl,rfl,cr,by rw[←ha.1];exact GA ha,by simp[hr.1],fun i a r p q=>?_⟩
      ·rw[apZ]at p
       rw[cQ,apZ]at q
       cases h1:e.rows[i]? with
       |none=>rw[h1]at p;cases p
       |some l=>
        cases h2:rws[i]? with
        |none=>rw[h2]at q;cases q
        |some x=>
         rw[h1]at p
         rw[h2]at q
         obtain rfl:=apO p
         obtain rfl:=apO q
         exact hr.2 i l x h1 h2
     obtain⟨z,h1⟩:=xp ((List.range e.args.length).map some) [] _ _ Fe h0
     obtain⟨z2,h2⟩:=tf (List.range e.rows.length) _ _ h1
     exact⟨z++z2,by rw[←ap3];exact h2⟩
    obtain⟨z,hO⟩:=Za
    have hall:=ap1.1 h
    cases rN:e.rows with
    |nil=>
     have QT:rws=[]:=apW (by rw[←hr.1,rN];rfl)
     subst QT
     rw[rN]at ho
     have Jb:EP P e.f args (Has [0] e.res):=by
      refine cR hf hb p6 (uA hL 200 _ code _ o ho _ _ _ _ hO fun ex N hm z' s rows cF=>?_)
      have hq:=hall _ hm
      unfold DF at hq
      have fin: ∀t,xn P N fn.results.toList=some t→(!notNil e.ad&&(e.res.pure&&(e.res.closed&&kJ N.F N.R 5 t e.res)))=true→pQ P s rows fn.results.toList fun r'=> ∃r,Has [0] e.res r∧r.Pure∧View rows r' r:=fun t ht hc=>by
       simp only[apP]at hc
       refine I8 cF ht fun v hv=>?_
       obtain⟨w,w1,w2⟩:=Jc cF.cx 5 t e.res v hc.2.2.2 hv
       exact⟨w,w2.close cF.zero hc.2.2.1,w2.pure hc.2.1,w1⟩
      cases ex with
      |exit id=>cases hq
      |normal=>
       simp only[I5,rN]at hq
       split at hq
       ·rename_i t ht;exact fin t ht hq
       ·cases hq
      |ret=>
       simp only[I5,rN]at hq
       split at hq
       ·rename_i t ht;exact fin t ht hq
       ·cases hq
     have jU:o=[]∨e.ad=[]:=by
      cases o with
      |nil=>exact .inl rfl
      |cons q o=>
       right
       have hq:=hall q (by simp)
       unfold DF at hq
       simp only[rN]at hq
       split at hq
       ·cases hq
       ·split at hq
        ·simp only[apP]at hq
         exact iq hq.1
        ·cases hq
     rcases jU with jU|jU
     ·
      subst jU
      refine Ff (rows:=[]) hf hb p6 (wZ (Q:=fun _ _ _=>False) (uA hL 200 _ code _ [] ho _ _ _ _ hO fun ex N hm=>by simp at hm) fun e s rows h=>h.elim)
     ·exact cO.mono Jb.eg fun r rs ⟨ad,h1,h2,h3,h4,h5⟩=>⟨ad,⟨h1,by rw[jU];exact⟨h3.symm,fun i t v h=>by simp at h⟩⟩,h2,h3,h4,h5⟩
    |cons l0 ls=>
     refine Ff hf hb p6 ?_
     rw[←hr.1]
     refine TH fun K hK hJ=>?_
     refine uA hL 200 _ code _ o ho _ _ _ _ hO fun ex N hm z' s rows cF=>?_
     have hq:=hall _ hm
     unfold DF at hq
     have fin: ∀(N:St) (s:List V) (rows:List Row),Ok (([0]++z)++z') N s rows→ ∀t,xn P N fn.results.toList=some t→(Nat.beq e.ad.length e.rows.length&&(e.res.pure&&(e.ad.all T.mu&&MY e.rows.length 1 0 [] ((List.range e.rows.length).map some) {N with S:=.one t} ⟨1,[],.one e.res,e.ad.map .cells⟩)))=true→
       pQ P s rows fn.results.toList fun r'=> ∃r ad,(Has [0] e.res r∧DG [0] e.ad ad)∧r.Pure∧ad.length=e.rows.length∧(∀x∈ad,bf x)∧Le e.rows.length [r'] rows [r] (cQ ad):=fun N s rows cF t ht hc=>by
      simp only[apP,aqi]at hc
      obtain⟨c1,c2,c3,c4⟩:=hc
      refine I8 cF ht fun v hv=>?_
      have M0:Ok (([0]++z)++z') {N with S:=.one t} [v] rows:=⟨cF.zero,cF.ng,cF.facts,Jd hv,cF.di,cF.rows⟩
      obtain⟨s',ad,q1,q2⟩:=QN c4 M0
      have hth:gQ (([0]++z)++z') 1 []=[0]:=by simp[gQ]
      rw[hth]at q1
      have j9:=q1.bO
      match s',j9,q2 with
      |[w],j9,q2=>
       have hw:=j9.one
       have TI:=I9 (θ:=[0]) (A:=e.ad) (ad:=ad) (by have:=q1.di;simpa using this) fun i l r p q=>by
        have:=q1.rows i (.cells l) r (by show(e.ad.map AR.cells)[i]?=_;rw[apZ,p];rfl) q
        cases r with
        |live cs=>exact⟨cs,rfl,this⟩
        |_=>exact this.elim
       obtain⟨dr,TI⟩:=TI
       obtain⟨rfl,h2⟩:=TI
       refine⟨w,dr,⟨hw,h2⟩,hw.pure c2,by rw[←h2.1,c1],fun x hx=>?_,q2⟩
       obtain⟨i,hi⟩:=aqm.1 hx
       obtain⟨l,hl⟩:=aC (l:=e.ad) (i:=i) (by rw[h2.1];exact(apN.1 hi).1)
       have hp:=ap1.1 c3 l (aqg hl)
       have:=h2.2 i l x hl hi
       exact mw this.1 fun k t v p q=>(this.2 k t v p q).pure (T.gR hp p)
      |[],j9,q2=>have:=j9.1;simp[SL.one]at this
      |_::_::_,j9,q2=>have:=j9.1;simp[SL.one]at this
     cases ex with
     |exit id=>cases hq
     |normal=>
      simp only[I5,rN]at hq
      show K s rows
      refine p0 hJ ((List.range N.R.length).drop (l0::ls).length++(List.range N.R.length).drop (l0::ls).length) N s rows cF fun s' ad M0=>hK _ _ (ME ?_)
      split at hq
      ·rename_i t ht;exact fin _ _ _ M0 t ht (by rw[rN];exact hq)
      ·cases hq
     |ret=>
      simp only[I5,rN]at hq
      simp only[Oi,F5]
      split at hq
      ·rename_i t ht;exact C4 (fin _ _ _ cF t ht (by rw[rN];exact hq))
      ·cases hq
   ·cases h
  ·cases h
 ·cases h
def Env.of(L:List fu):Env:=⟨L,fun _ _=>none,fun _ _ _ _=>none⟩
theorem Env.ab5{L:List fu}(h:xq.Ok P L):(Env.of L).Ok P:=⟨h,fun _ _ _ h=>by simp[Env.of]at h,fun _ _ _ _ _ h=>by simp[Env.of]at h⟩
end
end
end Go.Ck
set_option linter.unusedSectionVars false
namespace Go.Ck
noncomputable section
open Go.VS
variable [eb]
section
variable {P : Program} {L : Env} {θ : List Int}
def ss(P:Program)(rs:List ResultVar):dU→Option (List (T×St))
 |[]=>some []
 |(.exit _,_)::_=>none
 |(_,S)::l=>(match xn P S rs,ss P rs l with
  |some t,some r=>some ((t,S)::r)
  |_,_=>none)
theorem xu{rs:List ResultVar}: ∀{o:dU} {l:List (T×St)},ss P rs o=some l→ ∀e S,(e,S)∈o→ ∃t,xn P S rs=some t∧(t,S)∈l∧(e=.normal∨e=.ret)
 |[],_,_,e,S,h=>by simp at h
 |(.exit i,_)::_,_,h,_,_,_=>by simp[ss]at h
 |(.normal,S')::o,l,h,e,S,hm=>by
  simp only[ss]at h
  split at h
  ·rename_i t r ht hr
   obtain rfl:=apO h
   rcases ap8.1 hm with hm|hm
   ·obtain⟨rfl,rfl⟩:=aq7 hm
    exact⟨t,ht,by simp,.inl rfl⟩
   ·obtain⟨t',h1,h2,h3⟩:=xu hr e S hm
    exact⟨t',h1,by simp[h2],h3⟩
  ·cases h
 |(.ret,S')::o,l,h,e,S,hm=>by
  simp only[ss]at h
  split at h
  ·rename_i t r ht hr
   obtain rfl:=apO h
   rcases ap8.1 hm with hm|hm
   ·obtain⟨rfl,rfl⟩:=aq7 hm
    exact⟨t,ht,by simp,.inr rfl⟩
   ·obtain⟨t',h1,h2,h3⟩:=xu hr e S hm
    exact⟨t',h1,by simp[h2],h3⟩
  ·cases h
def Zb(t:T):Bool:=
 match t with
 |.int _ (.aH 0 c)=>!decide (c=0)
 |_=>false
def Ze(a:AR):AR:=
 match a with
 |.cells l=>.cells (l.map fun _=>.any)
 |_=>.gn
def Vp(i j:IV):Bool:=
 match i with
 |.sum (.aH a c) (.aH b d)=>(match j with
  |.sum (.aH a' c') (.aH b' d')=>Nat.beq a a'&&(Nat.beq b b'&&(decide (c=c')&&decide (d=d')))
  |_=>false)
 |_=>false
theorem Zg{i j:IV}(h:Vp i j=true):i=j∧ ∃a c b d,j=.sum (.aH a c) (.aH b d):=by
 unfold Vp at h
 split at h
 ·split at h
  ·simp only[apP,aqi,decide_eq_true_eq]at h
   obtain⟨rfl,rfl,rfl,rfl⟩:=h
   exact⟨rfl,_,_,_,_,rfl⟩
  ·cases h
 ·cases h
def Oq(q:IV)(h:Nat)(i:IV):IV:=bif Vp i q then .aH h 0 else i
def TJ(q:IV)(h:Nat)(t:T):T:=
 match t with
 |.av id l sz=>.av id (Oq q h l) sz
 |t=>t
def Je(q:IV)(h:Nat)(a:AR):AR:=
 match a with
 |.cells l=>.cells (l.map (TJ q h))
 |.arr n e=>.arr (Oq q h n) e
 |a=>a
def DH:List AR→Option IV
 |[]=>none
 |.arr (.sum (.aH a c) (.aH b d)) _::_=>some (.sum (.aH a c) (.aH b d))
 |_::l=>DH l
def o6:Nat→St→St
 |0,S=>S
 |n+1,S=>match DH S.R with
  |none=>S
  |some q=>(let p:=o7 q S
   match p.1 with
   |.aH h 0=>o6 n {p.2 with R:=p.2.R.map (Je q h)}
   |_=>S)
theorem M1{θ:List Int}{q i:IV}{h:Nat}{x n:Int}(hq:q.Has θ x)(hh:θ[h]?=some x)(hi:i.Has θ n):(Oq q h i).Has θ n:=by
 unfold Oq
 cases he:Vp i q with
 |false=>exact hi
 |true=>
  obtain⟨rfl,a,c,b,d,rfl⟩:=Zg he
  obtain⟨x1,x2,⟨u,e1,rfl⟩,⟨w,e2,rfl⟩,rfl⟩:=hq
  obtain⟨y1,y2,⟨u',e3,rfl⟩,⟨w',e4,rfl⟩,rfl⟩:=hi
  rw[e1]at e3
  rw[e2]at e4
  obtain rfl:=apO e3
  obtain rfl:=apO e4
  exact⟨_,hh,by omega⟩
theorem WB{θ:List Int}{q:IV}{h:Nat}{x:Int}(hq:q.Has θ x)(hh:θ[h]?=some x){t:T}{v:V}(hv:Has θ t v):Has θ (TJ q h t) v:=by
 unfold TJ
 split
 ·cases hv with
  |av p=>exact .av (M1 hq hh p)
 ·exact hv
theorem WC{θ:List Int}{q:IV}{h:Nat}{x:Int}(hq:q.Has θ x)(hh:θ[h]?=some x){a:AR}{r:Row}(hr:cX θ a r):cX θ (Je q h a) r:=by
 cases a with
 |cells l=>
  cases r with
  |live cs=>exact⟨by simpa[Je]using hr.1,fun i t v p1 p2=>by
    rw[apZ]at p1
    obtain⟨y,hy,rfl⟩:=map_some p1
    exact WB hq hh (hr.2 i y v hy p2)⟩
  |_=>exact hr.elim
 |arr n e=>
  cases r with
  |live cs=>
   obtain⟨k1,⟨m,k2,k3⟩,k4⟩:=hr
   exact⟨k1,⟨m,M1 hq hh k2,k3⟩,k4⟩
  |_=>exact hr.elim
 |_=>exact hr
theorem DI: ∀{R:List AR} {q:IV},DH R=some q→ ∃e,AR.arr q e∈R
 |a::R,q,h=>by
  unfold DH at h
  split at h
  ·rename_i he;cases he
  ·rename_i he
   obtain⟨rfl,rfl⟩:=List.cons.inj he
   obtain rfl:=apO h
   exact⟨_,aqT⟩
  ·rename_i he
   obtain⟨rfl,rfl⟩:=List.cons.inj he
   obtain⟨e,he⟩:=DI h
   exact⟨e,aqF _ he⟩
theorem Jf{s:List V}{rows:List Row}: ∀(n:Nat) (S:St) (θ:List Int),Ok θ S s rows→ ∃z,Ok (θ++z) (o6 n S) s rows
 |0,S,θ,h=>⟨[],by simpa[o6]using h⟩
 |n+1,S,θ,h=>by
  unfold o6
  split
  ·exact⟨[],by simpa using h⟩
  ·rename_i q hq
   obtain⟨e,he⟩:=DI hq
   obtain⟨i,hi⟩:=aqm.1 he
   have aO:i<rows.length:=by rw[←h.di];exact(apN.1 hi).1
   obtain⟨r,hr⟩:=aC aO
   have pS:=h.rows i _ r hi hr
   cases r with
   |live cs=>
    obtain⟨k1,⟨m,k2,k3⟩,k4⟩:=pS
    obtain⟨z,hz,hm⟩:=Jg h k2
    dsimp only
    split
    ·rename_i g hg
     rw[hg]at hm
     obtain⟨x,hx,Zh⟩:=hm
     obtain rfl:x=(m:Int):=by omega
     obtain⟨z2,Gz⟩:=Jf n {(o7 q S).2 with R:=(o7 q S).2.R.map (Je q g)} (θ++z) ⟨hz.zero,hz.ng,hz.facts,hz.bO,by have:=hz.di;simpa using this,fun j a r h1 h2=>by
      have h1:((o7 q S).2.R.map (Je q g))[j]?=some a:=h1
      rw[apZ]at h1
      obtain⟨y,hy,rfl⟩:=map_some h1
      exact WC (k2.pre) hx (hz.rows j y r hy h2)⟩
     exact⟨z++z2,by rw[←ap3];exact Gz⟩
    ·exact⟨[],by simpa using h⟩
   |_=>exact pS.elim
theorem WD(i:IV)(S:St):(o7 i S).2.S=S.S:=by cases i<;>rfl
theorem M3: ∀(n:Nat) (S:St),(o6 n S).S=S.S
 |0,_=>rfl
 |n+1,S=>by
  unfold o6
  split
  ·rfl
  ·dsimp only
   split
   ·rw[M3 n];exact WD _ S
   ·rfl
def DJ(p:T×St):T×St:=bif Zb p.1 then(p.1,⟨p.2.ng,[],.no,p.2.R.map Ze⟩)else(p.1,o6 3 {p.2 with S:=.one p.1})
theorem TK{p:T×St}{r:V}{rows:List Row}(hO:Ok θ {p.2 with S:=.one p.1} [r] rows): ∃z,Ok (θ++z) {(DJ p).2 with S:=.one (DJ p).1} [r] rows:=by
 unfold DJ
 cases Zb p.1 with
 |false=>
  obtain⟨z,hz⟩:=Jf 3 _ _ hO
  refine⟨z,?_⟩
  have e:=M3 3 {p.2 with S:=.one p.1}
  show Ok (θ++z) {o6 3 {p.2 with S:=.one p.1}with S:=.one p.1} [r] rows
  have e2:({o6 3 {p.2 with S:=.one p.1}with S:=.one p.1}:St)=o6 3 {p.2 with S:=.one p.1}:=by
   generalize o6 3 {p.2 with S:=.one p.1}=X at e⊢
   obtain⟨a,b,c,d⟩:=X
   simp only at e
   rw[e]
  rw[e2]
  exact hz
 |true=>
  refine⟨[],?_⟩
  rw[aqp]
  refine⟨hO.zero,hO.ng,cr,hO.bO,?_,fun i a r h1 h2=>?_⟩
  ·have:=hO.di
   simpa using this
  ·have h1:(p.2.R.map Ze)[i]?=some a:=h1
   rw[apZ]at h1
   obtain⟨x,hx,rfl⟩:=map_some h1
   have hr:=hO.rows i x r hx h2
   cases x with
   |cells l=>
    cases r with
    |live cs=>exact⟨by simpa using hr.1,fun j t v q1 q2=>by
      rw[apZ]at q1
      obtain⟨y,-,rfl⟩:=map_some q1
      exact .any⟩
    |_=>exact hr.elim
   |_=>exact trivial
def Ot(P:Program)(L:Env)(cfg:FuncId→Option Un)(st:Nat×List Fact)(R:List AR)(f:FuncId)(ts:List T):Option (List (T×St)):=
 match cfg f with
 |none=>none
 |some un=>(match P.funcs[f]? with
  |none=>none
  |some fn=>if fn.name== "runtime.NumGoroutine" then none else(match fn.body with
   |none=>none
   |some code=>(match iU (IX code fn.results.toList) fun U=>o5 P L R.length {un with fg:=true,live:=some U} 200 st.2.length code ⟨st.1,st.2,.args ts (fn.ntmps-ts.length) un.ex,R⟩with
    |none=>none
    |some o=>(ss P fn.results.toList o).map fun l=>l.map DJ)))
theorem TL(hL:Env.Ok P L){cfg:FuncId→Option Un}{st:Nat×List Fact}{R:List AR}{f:FuncId}{ts:List T}{l:List (T×St)}(h:Ot P L cfg st R f ts=some l){θ:List Int}{args:List V}{rows:List Row}
  (hO:Ok θ ⟨st.1,st.2,.no,R⟩ [] rows) (ha:bg θ ts args):cO P f args rows fun r ad=> ∃p∈l,∃z,Ok (θ++z) {p.2 with S:=.one p.1} [r] ad:=by
 unfold Ot at h
 split at h
 ·cases h
 ·rename_i un _
  split at h
  ·cases h
  ·rename_i fn hf
   split at h
   ·cases h
   ·rename_i hn
    split at h
    ·cases h
    ·rename_i code hb
     rw[iV]at h
     split at h
     ·cases h
     ·rename_i o ho
      obtain⟨l',lR,rfl⟩:=map_some h
      refine cO.mono (R:=fun r ad=> ∃p∈l',∃z,Ok (θ++z) {p.2 with S:=.one p.1} [r] ad) ?_ fun r ad ⟨p,hp,z,hz⟩=>by obtain⟨z2,Gz⟩:=TK hz;exact⟨DJ p,aqd.2 ⟨p,hp,rfl⟩,z++z2,by rw[←ap3];exact Gz⟩
      refine jH hf hb (enters_of hf (by simpa using hn) hb) ?_
      have hS:Ok θ ⟨st.1,st.2,.args ts (fn.ntmps-ts.length) un.ex,R⟩ (args++List.replicate (fn.ntmps-args.length) .aa) rows:=
       ⟨hO.zero,hO.ng,hO.facts,by rw[←ha.1];exact GA ha,hO.di,hO.rows⟩
      rw[←hO.di]
      refine uA hL 200 _ code _ o ho θ _ _ _ hS fun e N hm z s' ad cF=>?_
      obtain⟨t,h1,h2,h3⟩:=xu lR e N hm
      have fin:pQ P s' ad fn.results.toList fun r=> ∃p∈l',∃z,Ok (θ++z) {p.2 with S:=.one p.1} [r] ad:=
       I8 cF h1 fun v hv=>⟨(t,N),h2,z,cF.zero,cF.ng,cF.facts,Jd hv,cF.di,cF.rows⟩
      rcases h3 with rfl|rfl<;>exact fin
def Fg(F:List Fact)(R:List AR):Nat→T→T
 |0,t=>M4 F t
 |n+1,t=>match t with
  |.av id l sz=>(match iW F R sz (.av id l sz)with
   |some (l',e)=>.sl (Jh F l') (e.map (Fg F R n))
   |none=>.any)
  |.ref id off=>(match R[id]? with
   |some (.cells c)=>.aL ((c.drop off).map (Fg F R n))
   |_=>.any)
  |.agg e=>.agg (e.map (Fg F R n))
  |.aB e=>.aB (e.map (Fg F R n))
  |t=>M4 F t
def M5(P:Program)(rs:List ResultVar):dU→Option T
 |[]=>none
 |[(_,S)]=>(xn P S rs).map (bif S.S.ex then Fh S.F S.R 6 else Fg S.F S.R 6)
 |(_,S)::l=>(match xn P S rs,M5 P rs l with
  |some t,some u=>some (YU (Fg S.F S.R 6 t) u)
  |_,_=>none)
def Ou(P:Program)(L:Env)(cfg:FuncId→Option Un)(f:FuncId)(ts:List T):Option T:=
 match cfg f with
 |none=>none
 |some un=>(match P.funcs[f]? with
  |none=>none
  |some fn=>if fn.name== "runtime.NumGoroutine" then none else(match fn.body with
   |none=>none
   |some code=>(match iU (IX code fn.results.toList) fun U=>o5 P L 0 {un with live:=some U} 200 0 code (y8 ⟨f,ts,[],.any,[],un⟩ fn.ntmps)with
    |none=>none
    |some o=>(match M5 P fn.results.toList o with
     |none=>none
     |some t=>if o.all (DF P ⟨f,ts,[],t,[],un⟩ fn.results.toList)then some t else none))))
theorem TM(hL:Env.Ok P L){cfg:FuncId→Option Un}{f:FuncId}{ts:List T}{t:T}(h:Ou P L cfg f ts=some t):(fu.mk f ts [] t [] 0).Ok P:=by
 unfold Ou at h
 split at h
 ·cases h
 ·rename_i un _
  split at h
  ·cases h
  ·rename_i fn hf
   split at h
   ·cases h
   ·rename_i hn
    split at h
    ·cases h
    ·rename_i code hb
     rw[iV]at h
     split at h
     ·cases h
     ·rename_i o ho
      split at h
      ·cases h
      ·rename_i t' _
       obtain⟨hall,h⟩:=aG h
       subst h
       refine Ja (e:=⟨f,ts,[],t',[],un⟩) hL ?_
       have hs:y8 ⟨f,ts,[],.any,[],un⟩ fn.ntmps=y8 ⟨f,ts,[],t',[],un⟩ fn.ntmps:=rfl
       rw[hs]at ho
       unfold HR
       rw[hf]
       simp only[hb,aqh,iV,ho,hall,Bool.and_true]
       simpa using hn
def HS(P:Program)(L:List fu)(dyn inl:FuncId→Option Un):Nat→Env
 |0=>.of L
 |n+1=>⟨L,Ou P (HS P L dyn inl n) dyn,Ot P (HS P L dyn inl n) inl⟩
theorem Cw{L:List fu}{dyn inl:FuncId→Option Un}(h:xq.Ok P L): ∀n,(HS P L dyn inl n).Ok P
 |0=>Env.ab5 h
 |n+1=>⟨h,fun f ts t e=>TM (Cw h n) e,fun st R f ts l e θ args rows hO ha=>TL (Cw h n) e hO ha⟩
end
end
end Go.Ck
