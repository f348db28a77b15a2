/-
 STEP: certificates and states as they read; small makers.
 Conditions: none.
-/
import Derived.Test.YtjlnoogcggdhkaaGreatDoorGj
set_option maxRecDepth 100000
set_option maxHeartbeats 32000000
namespace Go.Stp
open Go.VS
structure Mp where
 i:List UInt8
 s:List UInt8
 deriving DecidableEq
structure Pt where
 names:List Gn
 AN:Int
 has:Bool
 aT:Nm
 deriving DecidableEq
structure Ex where
 id:List UInt8
 afG:Bool
 v:List UInt8
 deriving DecidableEq
structure In where
 basic:Bool
 ca:Bool
 gz:Int
 bM:Int
 cT:List (List UInt8)
 bG:List (List UInt8)
 maps:List Mp
 gA:Int
 gB:Int
 gC:Int
 names:List Gn
 fV:Bool
 cons:Sb
 sk:List UInt8
 ak:List UInt8
 points:List Pt
 fresh:List Pt
 gn:List Ex
 deriving DecidableEq
structure Ce where
 raw:List UInt8
 eQ:List UInt8
 dK:Int
 aT:Nm
 bq:Nm
 nb:Int
 na:Int
 key:Ky
 info:In
 sig:List UInt8
 deriving DecidableEq
structure Pg where
 aT:Nm
 key:Ky
 lists:Bool
 len:Int
 dh:Int
 map:Int
 any:Int
 names:List Sb
 deriving DecidableEq
structure Qu where
 time:Int
 iH:List UInt8
 bM:Int
 bG:List (List UInt8)
 dh:Bool
 jZ:Bool
 j0:Bool
 names:List Gn
 gL:Int
 status:Bool
 dD:List An
 deriving DecidableEq
def Mp.c(m:Mp):List V:=[.str m.i,.str m.s]
def ff(l:List Mp):V:=.sl l.length (l.flatMap Mp.c)
def Pt.c(p:Pt):List V:=[aX p.names,.int .i64 p.AN,.bool p.has,aW p.aT]
def cM(l:List Pt):V:=.sl l.length (l.flatMap Pt.c)
def Ex.c(x:Ex):List V:=[.str x.id,.bool x.afG,.str x.v]
def gk(l:List Ex):V:=.sl l.length (l.flatMap Ex.c)
def bY(l:List (List UInt8)):V:=.sl l.length (l.map V.str)
def In.c(i:In):List V:=[.bool i.basic,.bool i.ca,.int .i64 i.gz,.int .i64 i.bM,bY i.cT,bY i.bG,ff i.maps,.int .i64 i.gA,.int .i64 i.gB,.int .i64 i.gC,aX i.names,.bool i.fV,
 aX i.cons.p,aX i.cons.x,.str i.sk,.str i.ak,cM i.points,cM i.fresh,gk i.gn]
def Ce.c(c:Ce):List V:=[.str c.raw,.str c.eQ,.int .i64 c.dK,aW c.aT,aW c.bq,.int .i64 c.nb,.int .i64 c.na,.int .i64 c.key.h,.str c.key.id,.str c.key.root,
 .bool c.info.basic,.bool c.info.ca,.int .i64 c.info.gz,.int .i64 c.info.bM,bY c.info.cT,bY c.info.bG,ff c.info.maps,.int .i64 c.info.gA,.int .i64 c.info.gB,.int .i64 c.info.gC,aX c.info.names,.bool c.info.fV,
 aX c.info.cons.p,aX c.info.cons.x,.str c.info.sk,.str c.info.ak,cM c.info.points,cM c.info.fresh,gk c.info.gn,.str c.sig]
def Pg.c(s:Pg):List V:=[aW s.aT,.int .i64 s.key.h,.str s.key.id,.str s.key.root,.bool s.lists,.int .i64 s.len,.int .i64 s.dh,.int .i64 s.map,.int .i64 s.any,cU s.names]
def Qu.c(q:Qu):List V:=[.int .i64 q.time,.str q.iH,.int .i64 q.bM,bY q.bG,.bool q.dh,.bool q.jZ,.bool q.j0,aX q.names,.int .i64 q.gL,.bool q.status,jh q.dD]
@[simp] theorem adl(r:List Mp):(ff r).Pure:=.sl
@[simp] theorem adm(r:List Pt):(cM r).Pure:=.sl
@[simp] theorem adn(r:List Ex):(gk r).Pure:=.sl
@[simp] theorem ado(r:List (List UInt8)):(bY r).Pure:=.sl
@[simp] theorem afH(r:List Mp):(ff r).one=true:=rfl
@[simp] theorem afI(r:List Pt):(cM r).one=true:=rfl
@[simp] theorem afJ(r:List Ex):(gk r).one=true:=rfl
@[simp] theorem afK(r:List (List UInt8)):(bY r).one=true:=rfl
@[simp] theorem In.fC(i:In):bf i.c:=by simp[In.c]
@[simp] theorem Ce.fC(i:Ce):bf i.c:=by simp[Ce.c]
@[simp] theorem Pg.fC(i:Pg):bf i.c:=by simp[Pg.c]
@[simp] theorem Qu.fC(i:Qu):bf i.c:=by simp[Qu.c]
def ze:V→V
 |.agg cs=>.agg (cs.map nz)
 |x=>nz x
def ZD:V→V
 |.aB vs=>.aB (vs.map ze)
 |x=>ze x
theorem DR{w:World}{ro:Nat→Prop}{ρ:bP}{u:Value}{v:V}(h:Rd w ro ρ u v):Rd w ro ρ u (ze v):=by
 cases v with
 |agg cs=>
  obtain⟨us,rfl,hl,hr⟩: ∃us:Array Value,u=.agg us∧us.size=cs.length∧ ∀(i:Nat) u x,us[i]?=some u→cs[i]?=some x→Rd w ro ρ u x:=by
   cases h with
   |agg h1 h2=>exact⟨_,rfl,h1,h2⟩
  refine .agg (by simpa using hl) fun i u x hu hx=>?_
  rw[apZ]at hx
  cases hc:cs[i]? with
  |none=>rw[hc]at hx;simp at hx
  |some y=>
   rw[hc]at hx
   simp at hx
   subst hx
   exact(hr i u y hu hc).nz
 |_=>exact h.nz
theorem ZE{w:World}{ro:Nat→Prop}{ρ:bP}{u:Value}{v:V}(h:Rd w ro ρ u v):Rd w ro ρ u (ZD v):=by
 cases v with
 |aB cs=>
  obtain⟨us,rfl,hl,hr⟩: ∃us:Array Value,u=.tuple us∧us.size=cs.length∧ ∀(i:Nat) u x,us[i]?=some u→cs[i]?=some x→Rd w ro ρ u x:=by
   cases h with
   |aB h1 h2=>exact⟨_,rfl,h1,h2⟩
  refine .aB (by simpa using hl) fun i u x hu hx=>?_
  rw[apZ]at hx
  cases hc:cs[i]? with
  |none=>rw[hc]at hx;simp at hx
  |some y=>
   rw[hc]at hx
   simp at hx
   subst hx
   exact DR (hr i u y hu hc)
 |_=>exact DR h
theorem GC{P:Program}{f:FuncId}{args:List V}{r:V}(h:ao P f args r){r':V}(e:ZD r=r')(hp:r'.Pure):ao P f args r':=
 ⟨hp,h.2.1,fun w ro ρ vs g go ha=>(h.2.2 w ro ρ vs g go ha).mono fun e' w' ⟨v,r1,ad,aY,ρ',h1,h2,h3,h4⟩=>by
  subst h2;subst e
  exact⟨_,_,ad,aY,ρ',h1,rfl,h3,ZE h4⟩⟩
theorem OA{P:Program}{f:FuncId}{args fZ:List V}{rows:List Row}{R:V→List Row→Prop}(h:cO P f fZ rows R)(e:args.map ze=fZ):cO P f args rows R:=by
 subst e
 exact⟨h.1,fun w ro ρ vs g go ha=>h.2 w ro ρ vs g go ⟨by simpa using ha.1,fun i u x hu hx=>by
  rw[apZ]at hx
  cases hc:args[i]? with
  |none=>rw[hc]at hx;simp at hx
  |some y=>
   rw[hc]at hx
   simp at hx
   subst hx
   exact DR (ha.2 i u y hu hc)⟩⟩
theorem kv{P:Program}{f:FuncId}{args fZ:List V}{r:V}(h:ao P f fZ r)(e:args.map ze=fZ):ao P f args r:=⟨h.1,OA h.2 e⟩
def sO:List UInt8:=[50,46,53,46,52,46,49,48]
def sOU:List UInt8:=[50,46,53,46,52,46,49,49]
def OB(k:Nat):List UInt8:=(if 8≤k%16 then[32,99,97,32,32]else[67,65,32])++[UInt8.ofNat (48+k%8/2)]
def dj(k:Nat):Nm:=[⟨sO,19,OB k⟩]::(if k%2=1 then[[⟨sOU,12,[85,110,105,116]⟩]]else[])
def gu(k:Nat):Nat:=[0,2,4,12,6,1,14,3].getD k 0
theorem Q4(k:Nat)(h:k<8):gu k<16:=by
 match k,h with
 |0,_|1,_|2,_|3,_|4,_|5,_|6,_|7,_=>decide
end Go.Stp
namespace Go.Proofs.YtjlnoogcggdhkaaGreatDoor
open Go.Proofs.Tryz
open Go.VS Go.Stp
set_option linter.all false
attribute [local irreducible] bj au aS bz
theorem T1(k:Nat)(h:k<10):ao prog 63 [.int .i64 k] (.str [UInt8.ofNat (48+k)]):=by
 refine ah func63 rfl call63 ?_ ?_
 rotate_left 1
 refine af (s':=(.int .i64 k:V)::zJ 19) rfl ?_;dsimp only[zJ]
 match k,h with
 |0,_|1,_|2,_|3,_|4,_|5,_|6,_|7,_|8,_|9,_=>
  repeat' (first|refine Zq ?_|refine Zt ?_|(refine Zk 3 [] ?_;refine Zl ?_)|(refine Yb rfl ?_ ?_<;>intro ab<;>(try simp at ab)<;>try exact dc))
  all_goals exact .pure .str
 exact .str
theorem OC(k:Nat)(h:k<8):ao prog 39 [.int .i64 k] (.int .i64 (gu k)):=by
 refine ah func39 rfl call39 ?_ ?_
 rotate_left 1
 refine af (s':=(.int .i64 k:V)::zJ 7) rfl ?_;dsimp only[zJ]
 match k,h with
 |0,_|1,_|2,_|3,_|4,_|5,_|6,_|7,_=>
  repeat' (first|refine Zq ?_|refine Zt ?_|fail)
  all_goals exact .pure .int
 exact .int
def dE(k:Nat):Ky:=⟨0,ck (fD (1000+k)),jB (ck (fD (1000+k))) (fD (1000+k)) 0⟩
theorem GD(k:Nat)(h:k<8):ao prog 16 [.int .i64 k] (ow (fD (1000+k)) 0):=by
 refine ah func16 rfl call16 ?_ ?_
 rotate_left 1
 refine af (s':=(.int .i64 k:V)::zJ 6) rfl ?_;dsimp only[zJ]
 have ht:=Q5 (1000+k) 0 (by omega)
 have e:(k:Int)%8=k:=by omega
 unfold ow at*
 repeat' (first|refine Z1 e ht ?_|refine Zt ?_|fail)
 ·simp
  exact .pure (by simp)
 ·simp
theorem zf(k:Nat)(h:k<8):ao prog 40 [.int .i64 k] (.agg (dE k).c):=by
 have h1:=GD k h
 have h2:=DS (fD (1000+k)) 0 (by omega)
 refine ah func40 rfl call40 ?_ ?_
 rotate_left 1
 refine af (s':=(.int .i64 k:V)::zJ 5) rfl ?_;dsimp only[zJ]
 rw[show(.agg (dE k).c:V)=CD 0 (ck (fD (1000+k))) (jB (ck (fD (1000+k))) (fD (1000+k)) 0)from rfl]
 unfold CD ow at*
 repeat' (first|refine Z2 (Zj h1 h2) ?_|refine Zt ?_|fail)
 ·simp
  exact .pure (by simp)
 ·simp[Ky.c]
theorem uH{rows:List Row}{id n sz:Nat}{cs iy:List V}(h:rows[id]?=some (.live cs))(hl:n*sz=cs.length)(hv:eZ rows cs iy):View rows (.av id 0 n sz) (.sl n iy):=by
 have hg:=hv.get
 refine .av h (by omega) (by omega) fun i x y hx hy=>hg.2 i x y (by simpa using hx) hy
theorem uI(k:Nat)(h:k<16):ao prog 34 [.int .i64 k] (.agg [aW (dj k)]):=by
 have hd:=T1 (k%8/2) (by omega)
 refine ah func34 rfl call34 ?_ ?_
 rotate_left 1
 refine af (s':=(.int .i64 k:V)::zJ 33) rfl ?_;dsimp only[zJ]
 have Vs:(k:Int)%16=k:=by omega
 have ZF:k%16=k:=by omega
 have e8:(k:Int)%8/2=((k%8/2:Nat):Int):=by omega
 have YB:(48+k%8/2)<256:=by omega
 unfold dj OB aW
 rw[ZF]
 generalize hD:UInt8.ofNat (48+k%8/2)=D at*
 rw[←e8]at hd
 clear hD YB e8 ZF
 by_cases h8:8≤k<;>by_cases h2:k%2=1
 ·have Jt:(8:Int)≤k:=by omega
  have Ju:(k:Int)%2=1:=by omega
  rw[if_pos h8,if_pos h2]
  repeat' (first|refine Z1 (Zj Jt (Zj Ju Vs)) hd ?_|refine Zt ?_|(refine Yb rfl ?_ ?_<;>intro ab<;>(try simp at ab)<;>try exact dc))
  simp
  exact nX ⟨uH rfl rfl ⟨bK rfl rfl (by simp[At.c]),bK rfl rfl (by simp[At.c]),trivial⟩,trivial⟩
 ·have Jt:(8:Int)≤k:=by omega
  have Ju: ¬(k:Int)%2=1:=by omega
  rw[if_pos h8,if_neg h2]
  repeat' (first|refine Z1 (Zj Jt (Zj Ju Vs)) hd ?_|refine Zt ?_|(refine Yb rfl ?_ ?_<;>intro ab<;>(try simp at ab)<;>try exact dc))
  simp
  exact nX ⟨uH rfl rfl ⟨bK rfl rfl (by simp[At.c]),trivial⟩,trivial⟩
 ·have Jt: ¬(8:Int)≤k:=by omega
  have Ju:(k:Int)%2=1:=by omega
  rw[if_neg h8,if_pos h2]
  repeat' (first|refine Z1 (Zj Jt (Zj Ju Vs)) hd ?_|refine Zt ?_|(refine Yb rfl ?_ ?_<;>intro ab<;>(try simp at ab)<;>try exact dc))
  simp
  exact nX ⟨uH rfl rfl ⟨bK rfl rfl (by simp[At.c]),bK rfl rfl (by simp[At.c]),trivial⟩,trivial⟩
 ·have Jt: ¬(8:Int)≤k:=by omega
  have Ju: ¬(k:Int)%2=1:=by omega
  rw[if_neg h8,if_neg h2]
  repeat' (first|refine Z1 (Zj Jt (Zj Ju Vs)) hd ?_|refine Zt ?_|(refine Yb rfl ?_ ?_<;>intro ab<;>(try simp at ab)<;>try exact dc))
  simp
  exact nX ⟨uH rfl rfl ⟨bK rfl rfl (by simp[At.c]),trivial⟩,trivial⟩
 simp
end Go.Proofs.YtjlnoogcggdhkaaGreatDoor
namespace Go.Stp
open Go.VS
theorem T2{i:Nat}{rest:List V}(h: ∀x∈rest,x.Pure):dI false [some i] (.ref 0 0::rest) (.ref i 0::rest):=⟨by simp,gM h⟩
theorem LV{P:Program}{f:FuncId}{rest row fh:List V}{r:V}{rows:List Row}{k:KV}{i:Nat}(hc:tZ P f (.ref 0 0::rest) row fh r)(pS:rows[i]?=some (.live row))(hp:bf row)(sI:bf fh)(hr:r.Pure)
  (h: ∀x∈rest,x.Pure) (hk:k r (rows.set i (.live fh))):oR P f (.ref i 0::rest) rows k:=C9 i hc pS hp sI hr (T2 h) hk
def ab7:In:=⟨false,false,-1,0,[],[],[],-1,-1,-1,[],false,⟨[],[]⟩,[],[],[],[],[]⟩
def tt(b:Bool):Int:=if b then 0 else 9
def iX(n o:Int):Int:=if o≠ -1∧o<n then o else n
end Go.Stp
namespace Go.Proofs.YtjlnoogcggdhkaaGreatDoor
open Go.Proofs.Tryz
open Go.VS Go.Stp
set_option linter.all false
attribute [local irreducible] bj au aS bz
def ZG(k:Nat):An:=⟨dj (gu k),dE k⟩
def Jv(a:An)(q:Qu):Pg:=⟨a.n,a.k,true,8,tt q.dh,tt q.jZ,tt q.j0,[]⟩
theorem Ky.fC(k:Ky):bf k.c:=by simp[Ky.c]
theorem LW(k:Nat)(h:k<8):ao prog 12 [.int .i64 k] (.agg (ZG k).c):=by
 have h1:=OC k h
 have h2:=uI (gu k) (Q4 k h)
 have h3:=zf k h
 show ao _ _ _ (.agg [aW (dj (gu k)),.int .i64 (dE k).h,.str (dE k).id,.str (dE k).root])
 replace h3:ao prog 40 [.int .i64 k] (.agg [.int .i64 (dE k).h,.str (dE k).id,.str (dE k).root]):=h3
 generalize dE k=K at*
 have hA:=Fm (dj (gu k))
 have zg:=CF (dj (gu k))
 generalize aW (dj (gu k))=A at*
 refine ah func12 rfl call12 ?_ ?_
 rotate_left 1
 refine af (s':=(.int .i64 k:V)::zJ 8) rfl ?_;dsimp only[zJ]
 repeat' (first|refine Z1 (Zj hA zg) (Zj h1 (Zj h2 h3)) ?_|refine Zt ?_|fail)
 ·simp
  exact .pure (by simp[zg])
 ·simp[zg]
theorem xy(b:Bool):ao prog 65 [.bool b] (.int .i64 (tt b)):=by
 refine ah func65 rfl call65 ?_ ?_
 rotate_left 1
 refine af (s':=(.bool b:V)::zJ 3) rfl ?_;dsimp only[zJ]
 cases b
 ·repeat' (first|refine Zq ?_|refine Zt ?_|(refine Yb rfl ?_ ?_<;>intro ab<;>(try simp at ab)<;>try exact dc))
  exact .pure .int
 ·repeat' (first|refine Zq ?_|refine Zt ?_|(refine Yb rfl ?_ ?_<;>intro ab<;>(try simp at ab)<;>try exact dc))
  exact .pure .int
 exact .int
theorem OD(n o:Int):ao prog 70 [.int .i64 n,.int .i64 o] (.int .i64 (iX n o)):=by
 refine ah func70 rfl call70 ?_ ?_
 rotate_left 1
 refine af (s':=(.int .i64 n:V)::(.int .i64 o:V)::zJ 12) rfl ?_;dsimp only[zJ]
 by_cases h1:o= -1
 ·repeat' (first|refine Z3 h1 ?_|refine Zt ?_|(refine Yb rfl ?_ ?_<;>intro ab<;>(try simp at ab)<;>try exact dc)|refine Z6 h1 ?_|fail)
  rw[show iX n o=n by simp[iX,h1]]
  exact .pure .int
 ·by_cases h2:o<n
  ·repeat' (first|refine Z3 (Zj h1 h2) ?_|refine Zt ?_|(refine Yb rfl ?_ ?_<;>intro ab<;>(try simp at ab)<;>try exact dc)|refine Z6 (Zj h1 h2) ?_|fail)
   rw[show iX n o=o by simp[iX,h1,h2]]
   exact .pure .int
  ·repeat' (first|refine Z3 (Zj h1 h2) ?_|refine Zt ?_|(refine Yb rfl ?_ ?_<;>intro ab<;>(try simp at ab)<;>try exact dc)|refine Z6 (Zj h1 h2) ?_|fail)
   rw[show iX n o=n by simp[iX,h2]]
   exact .pure .int
 exact .int
end Go.Proofs.YtjlnoogcggdhkaaGreatDoor
namespace Go.Proofs.YtjlnoogcggdhkaaGreatDoor
open Go.Proofs.Tryz
open Go.VS Go.Stp
set_option linter.all false
attribute [local irreducible] bj au aS bz
theorem vm{P:Program}{F:List (Nat×Nat×V)}{s:List V}{rows:List Row}{k:KV}{t:TypeId}{a:Operand}{j off:Nat}{vs:List V}(ha:ax s a=.ref j off)(hu:p9 P t=some true)(hn:dW P t=some vs.length)(h0:vs≠ [])
  (hF: ∀(i:Nat) v,vs[i]?=some v→(j,off+i,v)∈F) (hk:k (.agg vs) rows):hU P F (.load t a) s rows k:=by
 refine⟨.agg vs,fun ar h=>?_,hk⟩
 obtain⟨v0,BF⟩: ∃v0,vs[0]?=some v0:=by cases vs with|nil=>exact absurd rfl h0|cons x _=>exact⟨x,rfl⟩
 obtain⟨cs,h1,h2⟩:=h _ (hF 0 v0 BF)
 have hall: ∀(i:Nat) v,vs[i]?=some v→cs[off+i]?=some v:=fun i v hv=>by
  obtain⟨iy,q1,q2⟩:=h _ (hF i v hv)
  dsimp only at q1 q2 h1
  rw[h1]at q1
  obtain rfl:cs=iy:=by simpa using q1
  exact q2
 have hle:off+vs.length≤cs.length:=by
  have cI:0<vs.length:=aqj.2 h0
  have:=(apN.1 (hall (vs.length-1) (vs[vs.length-1]'(by omega)) (ap5 (by omega)))).1
  omega
 have he:(cs.drop off).take vs.length=vs:=by
  apply arA
  intro i
  rw[aqc]
  split
  ·rename_i hi
   rw[aqb,hall i _ (ap5 hi),ap5 hi]
  ·rw[aql (by omega)]
 simp only[bF,ha,xz]
 refine⟨cs,h1,?_,?_⟩
 ·rintro rfl;simp at h2
 ·simp only[gr,hu]
  exact⟨_,hn,hle,by rw[he],trivial⟩
theorem wu{α β:Type}{f:α→List β}(l:List α)(i:Nat)(h:i<l.length):(l.take (i+1)).flatMap f=(l.take i).flatMap f++f l[i]:=by
 rw[aqA h,List.flatMap_append];simp
theorem HD{α β:Type}{f:α→β}(l:List α)(i:Nat)(h:i<l.length):(l.take (i+1)).map f=(l.take i).map f++[f l[i]]:=by
 rw[aqA h,arn];simp
theorem LX(x:Gn)(hx:WN x.name):ao prog 160 [.agg x.c] (.agg x.c):=by
 show ao _ _ [.agg [.int .i64 x.kind,.str x.text,.sl x.name.length (x.name.map bn)]] (.agg [.int .i64 x.kind,.str x.text,.sl x.name.length (x.name.map bn)])
 obtain⟨hl,pN⟩:=hx
 generalize x.name=n at*
 refine ah func160 rfl call160 ?_ ?_
 rotate_left 1
 refine af (s':=(.agg [.int .i64 x.kind,.str x.text,.sl n.length (n.map bn)]:V)::zJ 23) rfl ?_;dsimp only[zJ]
 repeat' (first|refine Zq ?_|refine Zt ?_|refine Y8 fun K hK=>?_|(apply hK;clear hK K)|(refine Yb rfl ?_ ?_<;>intro ab<;>(try simp at ab)<;>try exact dc)|refine Zx ?_|clear hK K)
 ·refine aV (fun i=>(some V.aa::zN 2 (some (V.av 2 0 i 1)::none::zS 3 (zN 2 (some (V.int .i64 i)::zS 13 []))))) (fun i=> [.live [.int .i64 x.kind,.str x.text,.sl n.length (n.map bn)],.live [.int .i64 0,.str [],.aj],.live ((n.take i).map bn)]) n.length ?_ fun i hi KL hL=>?_
  ·dsimp only[aE,zN,zS]
   exact Yr [some 0,some 1,none] (by simp[ae])
  dsimp only[aE,zN,zS]
  rcases apQ i n.length with hi|hi
  ·have rp:=(pN _ (apY hi)).1
   have mz:=HD (f:=bn) n i hi
   rw[mz]at hL
   clear mz
   have eu:=la n[i]
   have lv:=GF n[i]
   have zh:=qa At.rP n[i]
   have Jw:((n.take i).map bn).length=i:=by simp;omega
   have htp:bf ((n.take i).map bn):=jC _
   obtain⟨y,hy⟩: ∃y,n[i]=y:=⟨_,rfl⟩
   rw[hy]at rp hL eu lv zh
   have ZH:bn y=.sl y.length (y.flatMap At.c):=rfl
   rw[ZH]at hL
   generalize y.flatMap At.c=cy at*
   iterate 9 (first|refine Z0 (Zj hy ZH) ?_|refine Zt ?_|refine Y8 fun K hK=>?_|(apply hK;clear hK K)|(refine Yb rfl ?_ ?_<;>intro ab<;>(try simp at ab)<;>try exact dc)|refine Zx ?_|(clear hK K;first|(apply hK;clear hK K)|(clear hK K;first|(apply hK;clear hK K)|(clear hK K;first|(apply hK;clear hK K)|(clear hK K;apply hK;clear hK K)))))
   refine b8 fun K0 hK0=>?_
   repeat' (first|refine Z0 (Zj hy (Zj ZH (Zj eu zh))) ?_|refine Zt ?_|refine Y8 fun K hK=>?_|(apply hK;clear hK K)|(refine Yb rfl ?_ ?_<;>intro ab<;>(try simp at ab)<;>try exact dc)|refine Zx ?_|clear hK K)
   refine hK0 _ _ ?_
   clear hK0 K0
   refine iz 3 rfl lv (by simp[fz,←eu];rfl) (by simp[im,fz,←eu,yY (jC n),yY htp];rfl) ?_
   repeat' (first|refine Zq ?_|refine Zt ?_|refine Y8 fun K hK=>?_|(apply hK;clear hK K)|(refine Yb rfl ?_ ?_<;>intro ab<;>(try simp at ab)<;>try exact dc)|refine Zx ?_|clear hK K)
   have Q6:bf (List.take i (List.map bn n)++[V.sl y.length cy]):=by simp[C5 (jC n)]
   refine hL _ _ hi ?_
   exact Yr [some 0,some 1,some 5] (by simp[ae,az,arX,List.take_take,aN Q6])
  ·obtain rfl:i=n.length:=by omega
   repeat' (first|refine Zq ?_|refine Zt ?_|refine Y8 fun K hK=>?_|(apply hK;clear hK K)|(refine Yb rfl ?_ ?_<;>intro ab<;>(try simp at ab)<;>try exact dc)|refine Zx ?_|clear hK K)
   simp
   refine nX ⟨.pure .int,.pure .str,bK rfl (by simp) (jC n),trivial⟩
 ·simp
theorem uJ(l:List Gn)(hl:l.length≤131072)(hw: ∀x∈l,WN x.name):ao prog 159 [.sl l.length (l.flatMap Gn.c),.fn (.func 160) []] (.sl l.length (l.flatMap Gn.c)):=by
 refine ah func159 rfl call159 ?_ ?_
 rotate_left 1
 refine af (s':=(.sl l.length (l.flatMap Gn.c):V)::(.fn (.func 160) []:V)::zJ 20) rfl ?_;dsimp only[zJ]
 have eu:=eD Gn.fl l
 have cv: ∀i (h:i<l.length),((l.flatMap Gn.c).drop (i*3)).take 3=l[i].c:=n9 l
 have dC: ∀x∈l,ao prog 160 [.agg x.c] (.agg x.c):=fun x hx=>LX x (hw x hx)
 have lv:=uK l
 have Q7: ∀i,bf ((l.take i).flatMap Gn.c):=fun i=>uK _
 have aO: ∀i,i≤l.length→((l.take i).flatMap Gn.c).length=i*3:=fun i hi=>by rw[eD Gn.fl,apT,arM hi]
 have kF:(l.take l.length).flatMap Gn.c=l.flatMap Gn.c:=by rw[ari]
 have mz: ∀i (h:i<l.length),(l.take (i+1)).flatMap Gn.c=(l.take i).flatMap Gn.c++l[i].c:=fun i h=>wu l i h
 have h0:(l.take 0).flatMap Gn.c=[]:=rfl
 obtain⟨tk,oq⟩: ∃tk:Nat→List V,∀i,(l.take i).flatMap Gn.c=tk i:=⟨fun i=>(l.take i).flatMap Gn.c,fun i=>rfl⟩
 simp only[oq]at Q7 aO kF mz h0
 rw[←kF]at eu lv cv⊢
 clear kF
 repeat' (first|refine Zq ?_|refine Zt ?_|(refine Yb rfl ?_ ?_<;>intro ab<;>(try simp at ab)<;>try exact dc))
 ·refine aV (fun i=>(some V.aa::zN 3 (some V.aa::some (V.av 0 0 i 3)::none::some V.aa::zN 2 (some (V.int .i64 i)::zS 11 [])))) (fun i=> [.live (tk i)]) l.length ?_ fun i hi KL hL=>?_
  ·dsimp only[aE,zN,zS]
   exact Yr [none] (by simp[ae,h0])
  dsimp only[aE,zN,zS]
  have h1:=aO i (by omega)
  have h2:=Q7 i
  rcases apQ i l.length with hi|hi
  ·have hg:=cv i hi
   have bZ:=dC l[i] (apY hi)
   have hs:=mz i hi
   obtain⟨x,dY⟩: ∃x,l[i]=x:=⟨_,rfl⟩
   rw[dY]at bZ hg hs
   have e:x.c=[.int .i64 x.kind,.str x.text,.sl x.name.length (x.name.map bn)]:=rfl
   rw[e]at hg bZ hs
   rw[hs]at hL
   clear hs mz
   generalize tk i=ti at*
   generalize tk l.length=cells at*
   repeat' (first|refine Z1 (Zj hg h1) bZ ?_|refine Zt ?_|(refine Yb rfl ?_ ?_<;>intro ab<;>(try simp at ab)<;>try exact dc))
   have Q6:bf (ti++[.int .i64 x.kind,.str x.text,.sl x.name.length (x.name.map bn)]):=by simp[h2]
   refine hL _ _ hi ?_
   exact Yr [some 3] (by simp[ae,az,apR,h1,aN Q6])
  ·obtain rfl:i=l.length:=by omega
   repeat' (first|refine Zq ?_|refine Zt ?_|(refine Yb rfl ?_ ?_<;>intro ab<;>(try simp at ab)<;>try exact dc))
   exact bK rfl (by omega) h2
 ·exact .sl
theorem BG(x:Sb)(hx:WS x):ao prog 115 [.agg x.c] (.agg x.c):=by
 have h1:=uJ x.p hx.1.1 fun g hg=>(hx.1.2 g hg).1
 have h2:=uJ x.x hx.2.1 fun g hg=>(hx.2.2 g hg).1
 show ao _ _ [.agg [.sl x.p.length (x.p.flatMap Gn.c),.sl x.x.length (x.x.flatMap Gn.c)]] (.agg [.sl x.p.length (x.p.flatMap Gn.c),.sl x.x.length (x.x.flatMap Gn.c)])
 refine ah func115 rfl call115 ?_ ?_
 rotate_left 1
 refine af (s':=(.agg [.sl x.p.length (x.p.flatMap Gn.c),.sl x.x.length (x.x.flatMap Gn.c)]:V)::zJ 9) rfl ?_;dsimp only[zJ]
 repeat' (first|(refine Zu ?_;intro K9 h9;refine Zd ?_;((first|refine Ap h1 ?_|refine Ap h2 ?_|refine⟨_,h1,?_⟩|refine⟨_,h2,?_⟩|skip)<;>(refine Zf h9 ?_;clear h9 K9)))|refine Zt ?_|((first|refine Zk 0 [0,0,1,0,0,1,0,0] ?_|refine Zk 0 [] ?_);refine Zl ?_)|fail)
 ·simp
  exact .pure (by simp)
 ·simp
theorem CG(l:List Sb)(hl:l.length≤131072)(hw: ∀x∈l,WS x):mi prog 114 [.sl l.length (l.flatMap Sb.c),.fn (.func 115) []] [] [l.flatMap Sb.c] (.av 0 0 l.length 2):=by
 refine eN func114 rfl call114 ?_
 refine af (s':=(.sl l.length (l.flatMap Sb.c):V)::(.fn (.func 115) []:V)::zJ 20) rfl ?_;dsimp only[zJ]
 refine fW (ad:=[]) rfl ?_
 have eu:=eD Sb.fl l
 have cv: ∀i (h:i<l.length),((l.flatMap Sb.c).drop (i*2)).take 2=l[i].c:=vJ l
 have dC: ∀x∈l,ao prog 115 [.agg x.c] (.agg x.c):=fun x hx=>BG x (hw x hx)
 have lv:=qD l
 have Q7: ∀i,bf ((l.take i).flatMap Sb.c):=fun i=>qD _
 have aO: ∀i,i≤l.length→((l.take i).flatMap Sb.c).length=i*2:=fun i hi=>by rw[eD Sb.fl,apT,arM hi]
 have kF:(l.take l.length).flatMap Sb.c=l.flatMap Sb.c:=by rw[ari]
 have mz: ∀i (h:i<l.length),(l.take (i+1)).flatMap Sb.c=(l.take i).flatMap Sb.c++l[i].c:=fun i h=>wu l i h
 have h0:(l.take 0).flatMap Sb.c=[]:=rfl
 obtain⟨tk,oq⟩: ∃tk:Nat→List V,∀i,(l.take i).flatMap Sb.c=tk i:=⟨fun i=>(l.take i).flatMap Sb.c,fun i=>rfl⟩
 simp only[oq]at Q7 aO kF mz h0
 rw[←kF]at eu lv cv⊢
 clear kF
 repeat' (first|refine Zq ?_|refine Zt ?_|(refine Yb rfl ?_ ?_<;>intro ab<;>(try simp at ab)<;>try exact dc))
 refine aV (fun i=>(some V.aa::zN 3 (some V.aa::some (V.av 0 0 i 2)::none::some V.aa::zN 2 (some (V.int .i64 i)::zS 11 [])))) (fun i=> [.live (tk i)]) l.length ?_ fun i hi KL hL=>?_
 ·dsimp only[aE,zN,zS]
  exact Yr [none] (by simp[ae,h0])
 dsimp only[aE,zN,zS]
 have h1:=aO i (by omega)
 have h2:=Q7 i
 rcases apQ i l.length with hi|hi
 ·have hg:=cv i hi
  have bZ:=dC l[i] (apY hi)
  have hs:=mz i hi
  obtain⟨x,dY⟩: ∃x,l[i]=x:=⟨_,rfl⟩
  rw[dY]at bZ hg hs
  have e:x.c=[.sl x.p.length (x.p.flatMap Gn.c),.sl x.x.length (x.x.flatMap Gn.c)]:=rfl
  rw[e]at hg bZ hs
  rw[hs]at hL
  clear hs mz
  generalize tk i=ti at*
  generalize tk l.length=cells at*
  repeat' (first|refine Z1 (Zj hg h1) bZ ?_|refine Zt ?_|(refine Yb rfl ?_ ?_<;>intro ab<;>(try simp at ab)<;>try exact dc))
  have Q6:bf (ti++[.sl x.p.length (x.p.flatMap Gn.c),.sl x.x.length (x.x.flatMap Gn.c)]):=by simp[h2]
  refine hL _ _ hi ?_
  exact Yr [some 3] (by simp[ae,az,apR,h1,aN Q6])
 ·obtain rfl:i=l.length:=by omega
  repeat' (first|refine Zq ?_|refine Zt ?_|(refine Yb rfl ?_ ?_<;>intro ab<;>(try simp at ab)<;>try exact dc))
  exact Yr [some 0] (by simp[ae,az,aN h2])
theorem T3(l:List Sb)(x:Sb)(hl:l.length≤60000)(hw: ∀x∈l,WS x)(hx:WS x):ao prog 69 [.agg [cU l],.agg x.c] (.agg [cU (l++[x])]):=by
 have h1:=CG l (by omega) hw
 have h2:=BG x hx
 have eu:=Aw l
 have lv:=qD l
 have e:cU (l++[x])=.sl (l.length+1) (l.flatMap Sb.c++[.sl x.p.length (x.p.flatMap Gn.c),.sl x.x.length (x.x.flatMap Gn.c)]):=by
  simp[cU,Sb.c,aX]
 rw[e]
 replace h2:ao prog 115 [.agg [.sl x.p.length (x.p.flatMap Gn.c),.sl x.x.length (x.x.flatMap Gn.c)]] (.agg [.sl x.p.length (x.p.flatMap Gn.c),.sl x.x.length (x.x.flatMap Gn.c)]):=h2
 show ao _ _ [.agg [.sl l.length (l.flatMap Sb.c)],.agg [.sl x.p.length (x.p.flatMap Gn.c),.sl x.x.length (x.x.flatMap Gn.c)]] _
 generalize l.flatMap Sb.c=cells at*
 refine ah func69 rfl call69 ?_ ?_
 rotate_left 1
 refine af (s':=(.agg [.sl l.length cells]:V)::(.agg [.sl x.p.length (x.p.flatMap Gn.c),.sl x.x.length (x.x.flatMap Gn.c)]:V)::zJ 11) rfl ?_;dsimp only[zJ]
 repeat' (first|(refine Zu ?_;intro K9 h9;refine Zd ?_;((first|refine⟨[.live cells],.av 5 0 l.length 2,fun ar k2 e hk=>DT h1 lv (by simp) (by rw[e];exact hk),?_⟩|refine vm (vs:=[.sl x.p.length (x.p.flatMap Gn.c),.sl x.x.length (x.x.flatMap Gn.c)]) rfl (by simp) (by simp) (by simp) (by intro i v h;rcases i with _|_|i<;>simp at h<;>subst h<;>simp) ?_|refine Zc h2 ?_|skip)<;>(refine Zf h9 ?_;clear h9 K9)))|refine Zt ?_|((first|refine kz (m:=2) [(1,0,.sl x.p.length (x.p.flatMap Gn.c)),(1,1,.sl x.x.length (x.x.flatMap Gn.c))] (by simp) (by decide+kernel) [0,0,4,3,1,0,0,0,0] (by kernel_rfl) (by decide+kernel) ?_|refine Zk 2 [0,0,4,3,1,0,0,0,0] ?_|refine Zk 2 [] ?_);refine Zl ?_)|fail)
 ·simp
  rw[apR (show cells.length≤l.length*2 by omega)]
  refine nX ⟨bK rfl (by simp[eu];omega) (Io.2 ⟨lv,by simp⟩),trivial⟩
 ·simp
end Go.Proofs.YtjlnoogcggdhkaaGreatDoor
namespace Go.Stp
open Go.VS
def ZI:List UInt8:=[50,46,53,46,50,57,46,51,50,46,48]
def kM(m:Mp):Bool:=m.i==ZI||m.s==ZI
def gV(c:Ce):Bool:=jY c.aT c.bq
def xA(s:Pg)(c:Ce)(last:Bool):Bool:=decide (s.any≠0)||(gV c&&!last)
@[simp] theorem Mp.fl(a:Mp):a.c.length=2:=rfl
theorem ZJ(r:List Mp)(i:Nat)(h:i<r.length):((r.flatMap Mp.c).drop (i*2)).take 2=r[i].c:=pW Mp.fl r i h
def rQ{α:Type}(p:α→Bool)(l:List α):Int:=match l.findIdx? p with|some i=>i|none=> -1
theorem OE{α:Type}{p:α→Bool}{l:List α}(h: ∀j (h:j<l.length),p l[j]=false):rQ p l= -1:=by
 have:l.findIdx? p=none:=by
  rw[List.findIdx?_eq_none_iff]
  intro x hx
  obtain⟨j,hj,rfl⟩:=aqR hx
  exact h j hj
 rw[rQ,this]
theorem OF{α:Type}{p:α→Bool}{l:List α}{i:Nat}(hi:i<l.length)(h1:p l[i]=true)(h: ∀j (h:j<l.length),j<i→p l[j]=false):rQ p l=i:=by
 have:l.findIdx? p=some i:=by
  rw[List.findIdx?_eq_some_iff_getElem]
  exact⟨hi,h1,fun j hj=>by rw[h j (by omega) hj];decide⟩
 rw[rQ,this]
theorem T4{α:Type}(p:α→Bool)(l:List α):(decide (0≤rQ p l))=l.any p:=by
 unfold rQ
 cases h:l.findIdx? p with
 |none=>
  rw[List.findIdx?_eq_none_iff]at h
  symm
  rw[List.any_eq_false.2 fun x hx=>by rw[h x hx];decide]
  rfl
 |some i=>
  rw[List.findIdx?_eq_some_iff_getElem]at h
  obtain⟨hi,h1,_⟩:=h
  rw[any_true hi h1]
  simp
end Go.Stp
namespace Go.Proofs.YtjlnoogcggdhkaaGreatDoor
open Go.Proofs.Tryz
open Go.VS Go.Stp
set_option linter.all false
attribute [local irreducible] bj au bE aS bz
theorem OG(a:An)(q:Qu)(ha:WN a.n):ao prog 35 [.agg a.c,.agg q.c] (.agg (Jv a q).c):=by
 refine GC (r:=.agg [aW a.n,.int .i64 a.k.h,.str a.k.id,.str a.k.root,.bool true,.int .i64 8,.int .i64 (tt q.dh),.int .i64 (tt q.jZ),.int .i64 (tt q.j0),.aj]) ?_ (by simp[ZD,ze,nz,aW,Jv,Pg.c,cU]) (by simp)
 have h1:=o8 a.n ha
 have l1:=xy q.dh
 have l2:=xy q.jZ
 have l3:=xy q.j0
 have hA:=Fm a.n
 have zg:=CF a.n
 have e:=An.c.eq_1 a
 have e2:=Qu.c.eq_1 q
 rw[e,e2]
 generalize aW a.n=A at*
 refine ah func35 rfl call35 ?_ ?_
 rotate_left 1
 refine af (s':=(.agg [A,.int .i64 a.k.h,.str a.k.id,.str a.k.root]:V)::(.agg [.int .i64 q.time,.str q.iH,.int .i64 q.bM,bY q.bG,.bool q.dh,.bool q.jZ,.bool q.j0,aX q.names,.int .i64 q.gL,.bool q.status,jh q.dD]:V)::zJ 18) rfl ?_;dsimp only[zJ]
 repeat' (first|(refine Zu ?_;intro K9 h9;simp(disch:=first|exact dd|fail) [hA,zg];refine Zm ?_;((first|refine⟨_,h1,?_⟩|refine⟨_,l1,?_⟩|refine⟨_,l2,?_⟩|refine⟨_,l3,?_⟩|skip)<;>(refine Zf h9 ?_;clear h9 K9)))|refine Zt ?_|((first|refine Zk 0 [0,0,1,0,0,0,0,1,0,0,1,0,0,1,0,0] ?_|refine Zk 0 [] ?_);refine Zl ?_)|fail)
 ·simp
  exact .pure (by simp[zg])
 ·simp[zg]
theorem ui(c:Ce)(h1:WN c.aT)(h2:WN c.bq):ao prog 28 [.agg c.c] (.bool (gV c)):=by
 have hm:=Bv c.aT c.bq h1 h2
 rw[Ce.c.eq_1]
 unfold gV
 generalize jY c.aT c.bq=B at*
 refine ah func28 rfl call28 ?_ ?_
 rotate_left 1
 refine af (s':=(.agg [.str c.raw,.str c.eQ,.int .i64 c.dK,aW c.aT,aW c.bq,.int .i64 c.nb,.int .i64 c.na,.int .i64 c.key.h,.str c.key.id,.str c.key.root,.bool c.info.basic,.bool c.info.ca,.int .i64 c.info.gz,.int .i64 c.info.bM,bY c.info.cT,bY c.info.bG,ff c.info.maps,.int .i64 c.info.gA,.int .i64 c.info.gB,.int .i64 c.info.gC,aX c.info.names,.bool c.info.fV,aX c.info.cons.p,aX c.info.cons.x,.str c.info.sk,.str c.info.ak,cM c.info.points,cM c.info.fresh,gk c.info.gn,.str c.sig]:V)::zJ 7) rfl ?_;dsimp only[zJ]
 repeat' (first|refine Z2 hm ?_|refine Zt ?_|fail)
 ·exact .pure .bool
 ·exact .bool
theorem Jx(s:Pg)(c:Ce)(last:Bool)(h1:WN c.aT)(h2:WN c.bq):ao prog 37 [.agg s.c,.agg c.c,.bool last] (.bool (xA s c last)):=by
 have hs:=ui c h1 h2
 unfold xA
 rw[Pg.c.eq_1]
 generalize gV c=B at*
 rw[Ce.c.eq_1]at*
 refine ah func37 rfl call37 ?_ ?_
 rotate_left 1
 refine af (s':=(.agg [aW s.aT,.int .i64 s.key.h,.str s.key.id,.str s.key.root,.bool s.lists,.int .i64 s.len,.int .i64 s.dh,.int .i64 s.map,.int .i64 s.any,cU s.names]:V)::(.agg [.str c.raw,.str c.eQ,.int .i64 c.dK,aW c.aT,aW c.bq,.int .i64 c.nb,.int .i64 c.na,.int .i64 c.key.h,.str c.key.id,.str c.key.root,.bool c.info.basic,.bool c.info.ca,.int .i64 c.info.gz,.int .i64 c.info.bM,bY c.info.cT,bY c.info.bG,ff c.info.maps,.int .i64 c.info.gA,.int .i64 c.info.gB,.int .i64 c.info.gC,aX c.info.names,.bool c.info.fV,aX c.info.cons.p,aX c.info.cons.x,.str c.info.sk,.str c.info.ak,cM c.info.points,cM c.info.fresh,gk c.info.gn,.str c.sig]:V)::(.bool last:V)::zJ 15) rfl ?_;dsimp only[zJ]
 by_cases h0:s.any=0
 ·cases B
  ·repeat' (first|refine Z4 h0 hs ?_|refine Zt ?_|refine Z6 h0 ?_|fail)
   simp[h0]
   exact .pure .bool
  ·cases last
   ·repeat' (first|refine Z4 h0 hs ?_|refine Zt ?_|refine Z6 h0 ?_|fail)
    simp[h0]
    exact .pure .bool
   ·repeat' (first|refine Z4 h0 hs ?_|refine Zt ?_|refine Z6 h0 ?_|fail)
    simp[h0]
    exact .pure .bool
 ·repeat' (first|refine bS h0 hs ?_|refine ay ?_|refine aK h0 ?_|fail)
  (try simp[h0])
  exact .pure .bool
 ·exact .bool
theorem Q8(m:Mp):ao prog 66 [.agg [.str m.i,.str m.s]] (.bool (kM m)):=by
 refine ah func66 rfl call66 ?_ ?_
 rotate_left 1
 refine af (s':=(.agg [.str m.i,.str m.s]:V)::zJ 10) rfl ?_;dsimp only[zJ]
 have e:kM m=(m.i==[50,46,53,46,50,57,46,51,50,46,48]||m.s==[50,46,53,46,50,57,46,51,50,46,48]):=rfl
 rw[e]
 by_cases h1:m.i=[50,46,53,46,50,57,46,51,50,46,48]
 ·repeat' (first|refine Z3 h1 ?_|refine Zt ?_|refine Z6 h1 ?_|fail)
  simp[h1]
  exact .pure .bool
 ·repeat' (first|refine Z3 h1 ?_|refine Zt ?_|refine Z6 h1 ?_|fail)
  rw[show(m.i==[50,46,53,46,50,57,46,51,50,46,48])=false by simp[h1],arG]
  exact .pure .bool
 exact .bool
theorem LY(l:List Mp)(hl:l.length≤131072):ao prog 111 [ff l,.fn (.func 66) []] (.int .i64 (rQ kM l)):=by
 unfold ff
 have eu:(l.flatMap Mp.c).length=l.length*2:=eD Mp.fl l
 have cv:=ZJ l
 refine ah func111 rfl call111 ?_ ?_
 rotate_left 1
 refine af (s':=(.sl l.length (l.flatMap Mp.c):V)::(.fn (.func 66) []:V)::zJ 17) rfl ?_;dsimp only[zJ]
 generalize l.flatMap Mp.c=cells at*
 repeat' (first|refine Zq ?_|refine Zt ?_|(refine Yb rfl ?_ ?_<;>intro ab<;>(try simp at ab)<;>try exact dc))
 ·refine bm (α:=Nat) (fun i=>(zN 4 (zS 3 (none::some (V.int .i64 i)::zS 10 [])))) (fun i=> []) (fun i=>i≤l.length∧ ∀j (h:j<l.length),j<i→kM l[j]=false) (fun i=>l.length-i) 0 ⟨by omega,fun j _ h=>by omega⟩ ?_ ?_
  ·dsimp only[aE,zN,zS]
   exact Yr [] (by simp[ae])
  rintro i ⟨hi,hall⟩ KL hL
  dsimp only[aE,zN,zS]
  rcases apQ i l.length with hi|hi
  ·have aP:kM l[i]=false→i+1≤l.length∧ ∀j (h:j<l.length),j<i+1→kM l[j]=false:=fun hx=>⟨by omega,fun j hj h=>by
    rcases apQ j i with h3|h3
    ·exact hall j hj h3
    ·obtain rfl:j=i:=by omega
     exact hx⟩
   have Q9:kM l[i]=true→rQ kM l=i:=fun h=>OF hi h hall
   have hg:=cv i hi
   obtain⟨x,dY⟩: ∃x,l[i]=x:=⟨_,rfl⟩
   rw[dY]at aP Q9 hg
   rw[show x.c=[.str x.i,.str x.s]from rfl]at hg
   have hc:=Q8 x
   cases h1:kM x
   ·rw[h1]at hc
    repeat' (first|refine Z1 hg hc ?_|refine Zt ?_|(refine Yb rfl ?_ ?_<;>intro ab<;>(try simp at ab)<;>try exact dc))
    refine hL (i+1) _ _ (aP h1) (by omega) ?_
    exact Yr [] (by simp[ae])
   ·rw[h1]at hc
    repeat' (first|refine Z1 hg hc ?_|refine Zt ?_|(refine Yb rfl ?_ ?_<;>intro ab<;>(try simp at ab)<;>try exact dc))
    rw[Q9 h1]
    exact .pure .int
  ·repeat' (first|refine Zq ?_|refine Zt ?_|(refine Yb rfl ?_ ?_<;>intro ab<;>(try simp at ab)<;>try exact dc))
   rw[OE fun j hj=>hall j hj (by omega)]
   exact .pure .int
 ·exact .int
theorem wv(l:List Mp)(hl:l.length≤131072):ao prog 67 [ff l,.fn (.func 66) []] (.bool (l.any kM)):=by
 have hi:=LY l hl
 have hg:=T4 kM l
 rw[←hg]
 unfold ff at*
 generalize rQ kM l=r at*
 refine ah func67 rfl call67 ?_ ?_
 rotate_left 1
 refine af (s':=(.sl l.length (l.flatMap Mp.c):V)::(.fn (.func 66) []:V)::zJ 7) rfl ?_;dsimp only[zJ]
 repeat' (first|refine Z2 hi ?_|refine Zt ?_|fail)
 ·exact .pure .bool
 ·exact .bool
theorem Jy(s:Pg)(q:Qu)(hs:WN s.aT)(hq:WA q.dD):ao prog 38 [.agg s.c,.agg q.c] (jh ((if s.lists then[⟨s.aT,s.key⟩]else[])++q.dD)):=by
 have h1:=o8 s.aT hs
 have h2:=OH q.dD hq
 have hp:=zi q.dD
 have hl:=WM q.dD
 have zh:=qa An.rP q.dD
 have hlq:=hq.1
 rw[Pg.c.eq_1,Qu.c.eq_1]
 have e:jh ((if s.lists then[⟨s.aT,s.key⟩]else[])++q.dD)=.sl ((if s.lists then 1 else 0)+q.dD.length) ((if s.lists then[aW s.aT,.int .i64 s.key.h,.str s.key.id,.str s.key.root]else[])++q.dD.flatMap An.c):=by
  unfold jh
  cases s.lists<;>simp[An.c]
  omega
 rw[e]
 unfold jh at*
 have hA:=Fm s.aT
 have zg:=CF s.aT
 generalize aW s.aT=A at*
 generalize q.dD.flatMap An.c=cells at*
 refine ah func38 rfl call38 ?_ ?_
 rotate_left 1
 refine af (s':=(.agg [A,.int .i64 s.key.h,.str s.key.id,.str s.key.root,.bool s.lists,.int .i64 s.len,.int .i64 s.dh,.int .i64 s.map,.int .i64 s.any,cU s.names]:V)::(.agg [.int .i64 q.time,.str q.iH,.int .i64 q.bM,bY q.bG,.bool q.dh,.bool q.jZ,.bool q.j0,aX q.names,.int .i64 q.gL,.bool q.status,.sl q.dD.length cells]:V)::zJ 20) rfl ?_;dsimp only[zJ]
 cases hls:s.lists
 ·repeat' (first|(refine Zu ?_;intro K9 h9;simp(disch:=first|exact dd|fail) [hls,hA,zg,zh,hl];refine Zm ?_;((first|refine Ap h2 ?_|refine⟨_,h1,?_⟩|skip)<;>(refine Zf h9 ?_;clear h9 K9)))|refine Zt ?_|((first|refine Zk 2 [0,0,0,1,0,0,0,0,0] ?_|refine Zk 2 [] ?_);refine Zl ?_)|(refine Yb rfl ?_ ?_<;>intro ab<;>(try simp at ab)<;>try exact dc))
  simp
  exact bK rfl (by omega) hp
 ·repeat' (first|(refine Zu ?_;intro K9 h9;simp(disch:=first|exact dd|fail) [hls,hA,zg,zh,hl];refine Zm ?_;((first|refine Ap h2 ?_|refine⟨_,h1,?_⟩|skip)<;>(refine Zf h9 ?_;clear h9 K9)))|refine Zt ?_|((first|refine Zk 2 [0,0,0,1,0,0,0,0,0] ?_|refine Zk 2 [] ?_);refine Zl ?_)|(refine Yb rfl ?_ ?_<;>intro ab<;>(try simp at ab)<;>try exact dc))
  simp
  exact bK rfl (by simp[hl];omega) (by simp[zg];exact hp)
 exact .sl
end Go.Proofs.YtjlnoogcggdhkaaGreatDoor
