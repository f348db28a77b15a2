/-
 STEP: copies of slices.
 Conditions: none.
-/
import Derived.Test.YtjlnoogcggdhkaaGreatDoorGi
import Derived.Test.YtjlnoogcggdhkaaGreatDoorGh
set_option maxRecDepth 100000
set_option maxHeartbeats 32000000
namespace Go.Proofs.YtjlnoogcggdhkaaGreatDoor
open Go.Proofs.Tryz
open Go.VS
set_option linter.all false
attribute [local irreducible] bj au aS bz
theorem UU{P:Program}{f:FuncId}{args:List V}(h:ao P f args .aj):ao P f args (.sl 0 []):=
 ⟨.sl,h.2.1,fun w ro ρ vs g go ha=>(h.2.2 w ro ρ vs g go ha).mono fun e w' ⟨v,r',ad,aY,ρ',h1,h2,h3,h4⟩=>by
  subst h2
  obtain rfl:=gX h4
  exact⟨_,_,ad,aY,ρ',h1,rfl,h3,.lB⟩⟩
theorem Ai{P:Program}{f:FuncId}{args:List V}{rows:List Row}{R:V→List Row→Prop}(h1:cO P f (.aj::args) rows R)(h2: ∀(a:Addr) (c:Nat),cO P f (.val (.slice (some a) 0 c)::args) rows R):cO P f (.sl 0 []::args) rows R:=by
 refine⟨h1.1,fun w ro ρ vs g go ha=>?_⟩
 obtain⟨l,hl⟩: ∃l,vs.toList=l:=⟨_,rfl⟩
 match l,hl with
 |[],hl=>exact absurd ha.1 (by simp[hl])
 |u::us,hl=>
  have hu:=ha.2 0 u (.sl 0 []) (by simp[hl]) rfl
  have Jw: ∀x,Rd w ro ρ u x→bh w ro ρ vs.toList (x::args):=fun x hx=>⟨by simpa using ha.1,fun i v y hv hy=>by
   cases i with
   |zero=>simp[hl]at hv hy;subst hv;subst hy;exact hx
   |succ i=>exact ha.2 (i+1) v y hv (by simpa using hy)⟩
  cases hu with
  |lB=>exact h1.2 w ro ρ vs g go (Jw _ .aj)
  |@oO _ a cap=>exact(h2 a cap).2 w ro ρ vs g go (Jw _ .val)
  |@sl _ a _ cap us' q1 q2 q3 q4 q5 q6=>exact(h2 a cap).2 w ro ρ vs g go (Jw _ .val)
theorem ma{P:Program}{t d e n c:Nat}{a:Addr}(h:bt P t=some e):dH P (d+1) t (.val (.slice (some a) n c)) .aj=some false:=by simp[dH,yJ h]
theorem Mo{P:Program}{f:FuncId}{args:List V}{r:V}(h1:ao P f (.aj::args) r)(h2: ∀(a:Addr) (c:Nat),ao P f (.val (.slice (some a) 0 c)::args) r):ao P f (.sl 0 []::args) r:=
 ⟨h1.1,Ai h1.2 fun a c=>(h2 a c).2⟩
theorem qu{P:Program}{f:FuncId}{args:List V}{rows ad:List (List V)}{r:V}(h1:mi P f (.aj::args) rows ad r)(h2: ∀(a:Addr) (c:Nat),mi P f (.val (.slice (some a) 0 c)::args) rows ad r):mi P f (.sl 0 []::args) rows ad r:=
 Ai h1 h2
theorem G7(d:Nat):dH prog (d+1) 25 .aj .aj=some true:=sM (e:=103) (by kernel_rfl)
theorem Sq(d n:Nat)(c:List V):dH prog (d+1) 25 (.sl (n+1) c) .aj=some false:=ni (e:=103) (by kernel_rfl)
theorem G8(d n c:Nat)(a:Addr):dH prog (d+1) 25 (.val (.slice (some a) n c)) .aj=some false:=ma (e:=103) (by kernel_rfl)
theorem Mq(n:Nat)(cells:List V)(hl:cells.length=n*1)(hn:n≤1048576)(h1: ∀x∈cells,x.one=true)(hp:bf cells):mi prog 109 [.sl n cells] [] [cells] (.av 0 0 n 1):=by
 cases n with
 |zero=>
  obtain rfl:cells=[]:=apW (by simpa using hl)
  refine qu ?_ fun a c=>?_
  ·refine eN func109 rfl call109 ?_
   refine af (s':=(.aj:V)::zJ 7) rfl ?_;dsimp only[zJ]
   refine fW (ad:=[]) rfl ?_
   repeat' (first|refine Z0 (Zj @G7 @G8) ?_|refine Zt ?_|(refine Yb rfl ?_ ?_<;>intro ab<;>(try simp at ab)<;>try exact dc))
   exact Yr [none] (by simp[ae])
  ·refine eN func109 rfl call109 ?_
   refine af (s':=(.val (.slice (some a) 0 c):V)::zJ 7) rfl ?_;dsimp only[zJ]
   refine fW (ad:=[]) rfl ?_
   repeat' (first|refine Z0 (Zj @G7 @G8) ?_|refine Zt ?_|(refine Yb rfl ?_ ?_<;>intro ab<;>(try simp at ab)<;>try exact dc))
   exact Yr [some 1] (by simp[ae])
 |succ n=>
  refine eN func109 rfl call109 ?_
  refine af (s':=(.sl (n+1) cells:V)::zJ 7) rfl ?_;dsimp only[zJ]
  refine fW (ad:=[]) rfl ?_
  repeat' (first|refine Z0 (Zj hl (Zj h1 @Sq)) ?_|refine Zt ?_|(refine Yb rfl ?_ ?_<;>intro ab<;>(try simp at ab)<;>try exact dc))
  exact Yr [some 1] (by simp[ae,az,aN hp])
theorem G9(d:Nat):dH prog (d+1) 103 .aj .aj=some true:=sM (e:=105) (by kernel_rfl)
theorem Sr(d n:Nat)(c:List V):dH prog (d+1) 103 (.sl (n+1) c) .aj=some false:=ni (e:=105) (by kernel_rfl)
theorem Ha(d n c:Nat)(a:Addr):dH prog (d+1) 103 (.val (.slice (some a) n c)) .aj=some false:=ma (e:=105) (by kernel_rfl)
theorem PE(n:Nat)(cells:List V)(hl:cells.length=n*3)(hn:n≤1048576)(h1: ∀x∈cells,x.one=true)(hp:bf cells):ao prog 110 [.sl n cells] (.sl n cells):=by
 cases n with
 |zero=>
  obtain rfl:cells=[]:=apW (by simpa using hl)
  refine Mo (UU ?_) fun a c=>?_
  ·refine ah func110 rfl call110 ?_ ?_
   rotate_left 1
   refine af (s':=(.aj:V)::zJ 7) rfl ?_;dsimp only[zJ]
   repeat' (first|refine Z0 (Zj @G9 @Ha) ?_|refine Zt ?_|(refine Yb rfl ?_ ?_<;>intro ab<;>(try simp at ab)<;>try exact dc))
   ·exact .pure .aj
   ·exact .aj
  ·refine ah func110 rfl call110 ?_ ?_
   rotate_left 1
   refine af (s':=(.val (.slice (some a) 0 c):V)::zJ 7) rfl ?_;dsimp only[zJ]
   repeat' (first|refine Z0 (Zj @G9 @Ha) ?_|refine Zt ?_|(refine Yb rfl ?_ ?_<;>intro ab<;>(try simp at ab)<;>try exact dc))
   ·exact bK rfl (by simp) (by simp)
   ·exact .sl
 |succ n=>
  refine ah func110 rfl call110 ?_ ?_
  rotate_left 1
  refine af (s':=(.sl (n+1) cells:V)::zJ 7) rfl ?_;dsimp only[zJ]
  repeat' (first|refine Z0 (Zj hl (Zj h1 @Sr)) ?_|refine Zt ?_|(refine Yb rfl ?_ ?_<;>intro ab<;>(try simp at ab)<;>try exact dc))
  ·exact bK rfl (by simp[hl]) hp
  ·exact .sl
theorem Hb(d:Nat):dH prog (d+1) 49 .aj .aj=some true:=sM (e:=59) (by kernel_rfl)
theorem Su(d n:Nat)(c:List V):dH prog (d+1) 49 (.sl (n+1) c) .aj=some false:=ni (e:=59) (by kernel_rfl)
theorem Hc(d n c:Nat)(a:Addr):dH prog (d+1) 49 (.val (.slice (some a) n c)) .aj=some false:=ma (e:=59) (by kernel_rfl)
theorem Mr(n:Nat)(cells:List V)(hl:cells.length=n*4)(hn:n≤1048576)(h1: ∀x∈cells,x.one=true)(hp:bf cells):mi prog 161 [.sl n cells] [] [cells] (.av 0 0 n 4):=by
 cases n with
 |zero=>
  obtain rfl:cells=[]:=apW (by simpa using hl)
  refine qu ?_ fun a c=>?_
  ·refine eN func161 rfl call161 ?_
   refine af (s':=(.aj:V)::zJ 7) rfl ?_;dsimp only[zJ]
   refine fW (ad:=[]) rfl ?_
   repeat' (first|refine Z0 (Zj @Hb @Hc) ?_|refine Zt ?_|(refine Yb rfl ?_ ?_<;>intro ab<;>(try simp at ab)<;>try exact dc))
   exact Yr [none] (by simp[ae])
  ·refine eN func161 rfl call161 ?_
   refine af (s':=(.val (.slice (some a) 0 c):V)::zJ 7) rfl ?_;dsimp only[zJ]
   refine fW (ad:=[]) rfl ?_
   repeat' (first|refine Z0 (Zj @Hb @Hc) ?_|refine Zt ?_|(refine Yb rfl ?_ ?_<;>intro ab<;>(try simp at ab)<;>try exact dc))
   exact Yr [some 1] (by simp[ae])
 |succ n=>
  refine eN func161 rfl call161 ?_
  refine af (s':=(.sl (n+1) cells:V)::zJ 7) rfl ?_;dsimp only[zJ]
  refine fW (ad:=[]) rfl ?_
  repeat' (first|refine Z0 (Zj hl (Zj h1 @Su)) ?_|refine Zt ?_|(refine Yb rfl ?_ ?_<;>intro ab<;>(try simp at ab)<;>try exact dc))
  exact Yr [some 1] (by simp[ae,az,aN hp])
theorem Hd(d:Nat):dH prog (d+1) 30 .aj .aj=some true:=sM (e:=40) (by kernel_rfl)
theorem Sv(d n:Nat)(c:List V):dH prog (d+1) 30 (.sl (n+1) c) .aj=some false:=ni (e:=40) (by kernel_rfl)
theorem He(d n c:Nat)(a:Addr):dH prog (d+1) 30 (.val (.slice (some a) n c)) .aj=some false:=ma (e:=40) (by kernel_rfl)
theorem Ms(n:Nat)(cells:List V)(hl:cells.length=n*2)(hn:n≤1048576)(h1: ∀x∈cells,x.one=true)(hp:bf cells):mi prog 157 [.sl n cells] [] [cells] (.av 0 0 n 2):=by
 cases n with
 |zero=>
  obtain rfl:cells=[]:=apW (by simpa using hl)
  refine qu ?_ fun a c=>?_
  ·refine eN func157 rfl call157 ?_
   refine af (s':=(.aj:V)::zJ 7) rfl ?_;dsimp only[zJ]
   refine fW (ad:=[]) rfl ?_
   repeat' (first|refine Z0 (Zj @Hd @He) ?_|refine Zt ?_|(refine Yb rfl ?_ ?_<;>intro ab<;>(try simp at ab)<;>try exact dc))
   exact Yr [none] (by simp[ae])
  ·refine eN func157 rfl call157 ?_
   refine af (s':=(.val (.slice (some a) 0 c):V)::zJ 7) rfl ?_;dsimp only[zJ]
   refine fW (ad:=[]) rfl ?_
   repeat' (first|refine Z0 (Zj @Hd @He) ?_|refine Zt ?_|(refine Yb rfl ?_ ?_<;>intro ab<;>(try simp at ab)<;>try exact dc))
   exact Yr [some 1] (by simp[ae])
 |succ n=>
  refine eN func157 rfl call157 ?_
  refine af (s':=(.sl (n+1) cells:V)::zJ 7) rfl ?_;dsimp only[zJ]
  refine fW (ad:=[]) rfl ?_
  repeat' (first|refine Z0 (Zj hl (Zj h1 @Sv)) ?_|refine Zt ?_|(refine Yb rfl ?_ ?_<;>intro ab<;>(try simp at ab)<;>try exact dc))
  exact Yr [some 1] (by simp[ae,az,aN hp])
theorem Hf(d:Nat):dH prog (d+1) 38 .aj .aj=some true:=sM (e:=70) (by kernel_rfl)
theorem Sw(d n:Nat)(c:List V):dH prog (d+1) 38 (.sl (n+1) c) .aj=some false:=ni (e:=70) (by kernel_rfl)
theorem Hg(d n c:Nat)(a:Addr):dH prog (d+1) 38 (.val (.slice (some a) n c)) .aj=some false:=ma (e:=70) (by kernel_rfl)
theorem Mt(n:Nat)(cells:List V)(hl:cells.length=n*3)(hn:n≤1048576)(h1: ∀x∈cells,x.one=true)(hp:bf cells):mi prog 252 [.sl n cells] [] [cells] (.av 0 0 n 3):=by
 cases n with
 |zero=>
  obtain rfl:cells=[]:=apW (by simpa using hl)
  refine qu ?_ fun a c=>?_
  ·refine eN func252 rfl call252 ?_
   refine af (s':=(.aj:V)::zJ 7) rfl ?_;dsimp only[zJ]
   refine fW (ad:=[]) rfl ?_
   repeat' (first|refine Z0 (Zj @Hf @Hg) ?_|refine Zt ?_|(refine Yb rfl ?_ ?_<;>intro ab<;>(try simp at ab)<;>try exact dc))
   exact Yr [none] (by simp[ae])
  ·refine eN func252 rfl call252 ?_
   refine af (s':=(.val (.slice (some a) 0 c):V)::zJ 7) rfl ?_;dsimp only[zJ]
   refine fW (ad:=[]) rfl ?_
   repeat' (first|refine Z0 (Zj @Hf @Hg) ?_|refine Zt ?_|(refine Yb rfl ?_ ?_<;>intro ab<;>(try simp at ab)<;>try exact dc))
   exact Yr [some 1] (by simp[ae])
 |succ n=>
  refine eN func252 rfl call252 ?_
  refine af (s':=(.sl (n+1) cells:V)::zJ 7) rfl ?_;dsimp only[zJ]
  refine fW (ad:=[]) rfl ?_
  repeat' (first|refine Z0 (Zj hl (Zj h1 @Sw)) ?_|refine Zt ?_|(refine Yb rfl ?_ ?_<;>intro ab<;>(try simp at ab)<;>try exact dc))
  exact Yr [some 1] (by simp[ae,az,aN hp])
end Go.Proofs.YtjlnoogcggdhkaaGreatDoor
namespace Go.Stp
open Go.VS
structure At where
 t:List UInt8
 k:Int
 v:List UInt8
 deriving DecidableEq
abbrev Nm:=List (List At)
structure Gn where
 kind:Int
 text:List UInt8
 name:Nm
 deriving DecidableEq
structure Sb where
 p:List Gn
 x:List Gn
 deriving DecidableEq
structure Ky where
 h:Int
 id:List UInt8
 root:List UInt8
 deriving DecidableEq
structure An where
 n:Nm
 k:Ky
 deriving DecidableEq
def At.c(a:At):List V:=[.str a.t,.int .i64 a.k,.str a.v]
def bn(r:List At):V:=.sl r.length (r.flatMap At.c)
def Gn.c(g:Gn):List V:=[.int .i64 g.kind,.str g.text,.sl g.name.length (g.name.map bn)]
def aX(l:List Gn):V:=.sl l.length (l.flatMap Gn.c)
def Sb.c(s:Sb):List V:=[aX s.p,aX s.x]
def cU(l:List Sb):V:=.sl l.length (l.flatMap Sb.c)
def Ky.c(k:Ky):List V:=[.int .i64 k.h,.str k.id,.str k.root]
def aW(n:Nm):V:=.sl n.length (n.map bn)
def An.c(a:An):List V:=[aW a.n,.int .i64 a.k.h,.str a.k.id,.str a.k.root]
def jh(l:List An):V:=.sl l.length (l.flatMap An.c)
theorem eD{α β:Type}{f:α→List β}{m:Nat}(h: ∀a,(f a).length=m): ∀l:List α,(l.flatMap f).length=l.length*m
 |[]=>by simp
 |a::l=>by rw[arV,aqa,h,eD h l,apS,art];omega
theorem pW{α β:Type}{f:α→List β}{m:Nat}(h: ∀a,(f a).length=m): ∀(l:List α) (i:Nat) (hi:i<l.length),((l.flatMap f).drop (i*m)).take m=f l[i]
 |[],i,hi=>by simp at hi
 |a::l,0,hi=>by simp[h]
 |a::l,i+1,hi=>by
  have:=pW h l i (by simpa using hi)
  rw[arV,art,Nat.add_comm,←aq3,←h a,List.drop_left,h a]
  simpa using this
theorem EK{β:Type}(l:List β)(i m:Nat):l=l.take i++((l.drop i).take m++l.drop (i+m)):=by
 rw[←aq3,aqE,aqE]
theorem Aj(cs:List V)(off:Nat)(new:List V)(h:(cs.drop off).take new.length=new)(hl:off+new.length≤cs.length):eB cs off new=cs:=by
 rw[E0 hl]
 conv=>rhs;rw[EK cs off new.length,h]
 rw[ap3]
theorem DT{P:Program}{f:FuncId}{dG row:List V}{n sz:Nat}{rows:List Row}{k:KV}(hc:mi P f dG [] [row] (.av 0 0 n sz))(hp:bf row)(ha: ∀x∈dG,x.Pure)(hk:k (.av rows.length 0 n sz) (rows++[.live row])):oR P f dG rows k:=
 NT (ad:=[]) (news:=[row]) (rc:=.av rows.length 0 n sz) [] [] [row] hc arR (by simp[ae]) (gM ha) rfl rfl (by simp[aN hp]) (by simp[behind]) (by simpa using hk)
theorem u5{P:Program}{f:FuncId}{cap dG row:List V}{n sz:Nat}{rows:List Row}{k:KV}(hc:mi P f (dG++cap) [] [row] (.av 0 0 n sz))(hp:bf row)(ha: ∀x∈dG++cap,x.Pure)(hk:k (.av rows.length 0 n sz) (rows++[.live row])):mh P false (.fn (.func f) cap) dG rows k:=
 .inr ⟨rfl,nM (DT hc hp ha hk)⟩
@[simp] theorem At.fl(a:At):a.c.length=3:=rfl
@[simp] theorem Gn.fl(a:Gn):a.c.length=3:=rfl
@[simp] theorem Sb.fl(a:Sb):a.c.length=2:=rfl
@[simp] theorem An.fl(a:An):a.c.length=4:=rfl
@[simp] theorem la(r:List At):(r.flatMap At.c).length=r.length*3:=eD At.fl r
@[simp] theorem sa(r:List Gn):(r.flatMap Gn.c).length=r.length*3:=eD Gn.fl r
@[simp] theorem Aw(r:List Sb):(r.flatMap Sb.c).length=r.length*2:=eD Sb.fl r
@[simp] theorem WM(r:List An):(r.flatMap An.c).length=r.length*4:=eD An.fl r
@[simp] theorem aeg(r:List At):(bn r).Pure:=.sl
@[simp] theorem aeh(r:List Gn):(aX r).Pure:=.sl
@[simp] theorem aei(r:List Sb):(cU r).Pure:=.sl
@[simp] theorem aej(r:List An):(jh r).Pure:=.sl
@[simp] theorem CF(r:Nm):(aW r).Pure:=.sl
@[simp] theorem agv(r:List At):(bn r).one=true:=rfl
@[simp] theorem agw(r:List Gn):(aX r).one=true:=rfl
@[simp] theorem agx(r:List Sb):(cU r).one=true:=rfl
@[simp] theorem agy(r:List An):(jh r).one=true:=rfl
@[simp] theorem Fm(r:Nm):(aW r).one=true:=rfl
theorem kG{α:Type}{f:α→List V}(h: ∀a,bf (f a))(l:List α):bf (l.flatMap f):=fun x hx=>by
 obtain⟨a,_,ha⟩:=List.mem_flatMap.1 hx
 exact h a x ha
theorem qa{α:Type}{f:α→List V}(h: ∀a,∀x∈f a,x.one=true)(l:List α): ∀x∈l.flatMap f,x.one=true:=fun x hx=>by
 obtain⟨a,_,ha⟩:=List.mem_flatMap.1 hx
 exact h a x ha
@[simp] theorem At.fC(a:At):bf a.c:=by simp[At.c]
@[simp] theorem Gn.fC(a:Gn):bf a.c:=by simp[Gn.c]
@[simp] theorem Sb.fC(a:Sb):bf a.c:=by simp[Sb.c]
@[simp] theorem An.fC(a:An):bf a.c:=by simp[An.c]
theorem At.rP(a:At): ∀x∈a.c,x.one=true:=by simp[At.c,V.one]
theorem Gn.rP(a:Gn): ∀x∈a.c,x.one=true:=by simp[Gn.c,V.one]
theorem Sb.rP(a:Sb): ∀x∈a.c,x.one=true:=by simp[Sb.c]
theorem An.rP(a:An): ∀x∈a.c,x.one=true:=by simp[An.c]
@[simp] theorem GF(r:List At):bf (r.flatMap At.c):=kG At.fC r
@[simp] theorem uK(r:List Gn):bf (r.flatMap Gn.c):=kG Gn.fC r
@[simp] theorem qD(r:List Sb):bf (r.flatMap Sb.c):=kG Sb.fC r
@[simp] theorem zi(r:List An):bf (r.flatMap An.c):=kG An.fC r
@[simp] theorem jC(n:Nm):bf (n.map bn):=fun x hx=>by
 obtain⟨a,_,rfl⟩:=aqd.1 hx
 exact .sl
theorem Xn(n:Nm): ∀x∈n.map bn,x.one=true:=fun x hx=>by
 obtain⟨a,_,rfl⟩:=aqd.1 hx
 rfl
def WN(n:Nm):Prop:=n.length≤131072∧ ∀r∈n,r.length≤131072∧ ∀a∈r,a.v.length≤131072
def WE(g:Gn):Prop:=WN g.name∧g.text.length≤131072
def WG(l:List Gn):Prop:=l.length≤131072∧ ∀g∈l,WE g
def WS(s:Sb):Prop:=WG s.p∧WG s.x
def Bn(l:List Sb):Prop:=l.length≤131072∧ ∀s∈l,WS s
def WA(l:List An):Prop:=l.length≤131072∧ ∀a∈l,WN a.n
end Go.Stp
namespace Go.Proofs.YtjlnoogcggdhkaaGreatDoor
open Go.Proofs.Tryz
open Go.VS Go.Stp
set_option linter.all false
attribute [local irreducible] bj au aS bz
theorem o8(n:Nm)(hn:WN n):ao prog 64 [.agg [aW n]] (.agg [aW n]):=by
 unfold aW
 refine ah func64 rfl call64 ?_ ?_
 rotate_left 1
 refine af (s':=(.agg [.sl n.length (n.map bn)]:V)::zJ 24) rfl ?_;dsimp only[zJ]
 have hc:=Mq n.length (n.map bn) (by simp) (by have:=hn.1;omega) (Xn n) (jC n)
 repeat' (first|(refine Zu ?_;intro K9 h9;refine Zd ?_;((first|refine u5 hc (jC n) (by simp) ?_|skip)<;>(refine Zf h9 ?_;clear h9 K9)))|refine Zt ?_|(refine Zk 0 [] ?_;refine Zl ?_)|(refine Yb rfl ?_ ?_<;>intro ab<;>(try simp at ab)<;>try exact dc))
 ·refine aV (fun i=>(some V.aa::zN 2 (zS 7 (zN 2 (some (V.int .i64 i)::zS 12 []))))) (fun i=> [.live [.av 2 0 n.length 1],.live [.aj],.live (n.map bn)]) n.length ?_ fun i hi KL hL=>?_
  ·dsimp only[aE,zN,zS]
   exact Yr [some 0,some 1,some 2] (by simp[ae,az,aN (jC n)])
  dsimp only[aE,zN,zS]
  have Sf:=hn.1
  rcases apQ i n.length with hi|hi
  ·have bZ:=PE n[i].length (n[i].flatMap At.c) (la _) (by have:=(hn.2 _ (apY hi)).1;omega) (qa At.rP _) (GF _)
   have Ft:(n.map bn).set i (bn n[i])=n.map bn:=pY (by simp[hi])
   obtain⟨x,dY⟩: ∃x,n[i]=x:=⟨_,rfl⟩
   rw[dY]at bZ Ft
   have VZ:(n.map bn).set i (.sl x.length (x.flatMap At.c))=n.map bn:=Ft
   repeat' (first|(refine Zu ?_;intro K9 h9;simp(disch:=first|exact dd|fail) [dY,bn,VZ];refine Zm ?_;((first|refine⟨_,bZ,?_⟩|skip)<;>(refine Zf h9 ?_;clear h9 K9)))|refine Zt ?_|((first|refine Zk 0 [0,0,0,0,1,0,0] ?_|refine Zk 0 [] ?_);refine Zl ?_)|(refine Yb rfl ?_ ?_<;>intro ab<;>(try simp at ab)<;>try exact dc))
   refine hL _ _ hi ?_
   exact Yr [some 0,some 1,some 2] (by simp[ae,az,VZ,aN (jC n)])
  ·obtain rfl:i=n.length:=by omega
   repeat' (first|refine Zq ?_|refine Zt ?_|(refine Zk 0 [] ?_;refine Zl ?_)|(refine Yb rfl ?_ ?_<;>intro ab<;>(try simp at ab)<;>try exact dc))
   simp
   exact nX ⟨bK rfl (by simp) (jC n),trivial⟩
 ·simp
theorem Sx(x:Gn)(hx:WN x.name):ao prog 206 [.agg x.c] (.agg x.c):=by
 have hn:=o8 x.name hx
 show ao _ _ [.agg [.int .i64 x.kind,.str x.text,.sl x.name.length (x.name.map bn)]] (.agg [.int .i64 x.kind,.str x.text,.sl x.name.length (x.name.map bn)])
 unfold aW at hn
 refine ah func206 rfl call206 ?_ ?_
 rotate_left 1
 refine af (s':=(.agg [.int .i64 x.kind,.str x.text,.sl x.name.length (x.name.map bn)]:V)::zJ 7) rfl ?_;dsimp only[zJ]
 repeat' (first|refine Z2 hn ?_|refine Zt ?_|fail)
 ·simp
  exact .pure (by simp)
 ·simp
theorem n9(r:List Gn)(i:Nat)(h:i<r.length):((r.flatMap Gn.c).drop (i*3)).take 3=r[i].c:=pW Gn.fl r i h
theorem FQ(l:List Gn)(hl:l.length≤131072)(hw: ∀x∈l,WN x.name):ao prog 205 [.sl l.length (l.flatMap Gn.c),.fn (.func 206) []] (.sl l.length (l.flatMap Gn.c)):=by
 refine ah func205 rfl call205 ?_ ?_
 rotate_left 1
 refine af (s':=(.sl l.length (l.flatMap Gn.c):V)::(.fn (.func 206) []:V)::zJ 22) rfl ?_;dsimp only[zJ]
 have hc:=Mt l.length (l.flatMap Gn.c) (eD Gn.fl l) (by omega) (qa Gn.rP l) (uK l)
 have eu:=eD Gn.fl l
 have cv: ∀i (h:i<l.length),((l.flatMap Gn.c).drop (i*3)).take 3=l[i].c:=n9 l
 have dC: ∀x∈l,ao prog 206 [.agg x.c] (.agg x.c):=fun x hx=>Sx x (hw x hx)
 have lv:=uK l
 generalize l.flatMap Gn.c=cells at*
 repeat' (first|(refine Zu ?_;intro K9 h9;refine Zd ?_;((first|refine u5 hc lv (by simp) ?_|skip)<;>(refine Zf h9 ?_;clear h9 K9)))|refine Zt ?_|(refine Yb rfl ?_ ?_<;>intro ab<;>(try simp at ab)<;>try exact dc))
 ·refine aV (fun i=>(zN 4 (zS 5 (zN 2 (some (V.int .i64 i)::zS 12 []))))) (fun i=> [.live cells]) l.length ?_ fun i hi KL hL=>?_
  ·dsimp only[aE,zN,zS]
   exact Yr [some 0] (by simp[ae,az,aN lv])
  dsimp only[aE,zN,zS]
  rcases apQ i l.length with hi|hi
  ·have hg:=cv i hi
   have bZ:=dC l[i] (apY hi)
   obtain⟨x,dY⟩: ∃x,l[i]=x:=⟨_,rfl⟩
   rw[dY]at bZ hg
   have mW:=Aj cells (i*3) x.c (by simpa using hg) (by simp;omega)
   have e:x.c=[.int .i64 x.kind,.str x.text,.sl x.name.length (x.name.map bn)]:=rfl
   rw[e]at mW hg bZ
   simp only[eB,aq8]at mW
   repeat' (first|refine Z1 (Zj hg mW) bZ ?_|refine Zt ?_|(refine Yb rfl ?_ ?_<;>intro ab<;>(try simp at ab)<;>try exact dc))
   refine hL _ _ hi ?_
   exact Yr [some 0] (by simp[ae,az,aN lv])
  ·obtain rfl:i=l.length:=by omega
   repeat' (first|refine Zq ?_|refine Zt ?_|(refine Yb rfl ?_ ?_<;>intro ab<;>(try simp at ab)<;>try exact dc))
   exact bK rfl (by omega) lv
 ·exact .sl
theorem EL(l:List Gn)(hl:WG l):ao prog 158 [aX l] (aX l):=by
 have hn:=FQ l hl.1 fun g hg=>(hl.2 g hg).1
 unfold aX
 refine ah func158 rfl call158 ?_ ?_
 rotate_left 1
 refine af (s':=(.sl l.length (l.flatMap Gn.c):V)::zJ 4) rfl ?_;dsimp only[zJ]
 repeat' (first|refine Z2 hn ?_|refine Zt ?_|fail)
 ·exact .pure .sl
 ·exact .sl
theorem Sy(x:Sb)(hx:WS x):ao prog 113 [.agg x.c] (.agg x.c):=by
 have h1:=EL x.p hx.1
 have h2:=EL x.x hx.2
 show ao _ _ [.agg [.sl x.p.length (x.p.flatMap Gn.c),.sl x.x.length (x.x.flatMap Gn.c)]] (.agg [.sl x.p.length (x.p.flatMap Gn.c),.sl x.x.length (x.x.flatMap Gn.c)])
 unfold aX at h1 h2
 refine ah func113 rfl call113 ?_ ?_
 rotate_left 1
 refine af (s':=(.agg [.sl x.p.length (x.p.flatMap Gn.c),.sl x.x.length (x.x.flatMap Gn.c)]:V)::zJ 9) rfl ?_;dsimp only[zJ]
 repeat' (first|(refine Zu ?_;intro K9 h9;refine Zd ?_;((first|refine Ap h1 ?_|refine Ap h2 ?_|refine⟨_,h1,?_⟩|refine⟨_,h2,?_⟩|skip)<;>(refine Zf h9 ?_;clear h9 K9)))|refine Zt ?_|((first|refine Zk 0 [0,0,1,0,0,1,0,0] ?_|refine Zk 0 [] ?_);refine Zl ?_)|fail)
 ·simp
  exact .pure (by simp)
 ·simp
theorem Sz(x:An)(hx:WN x.n):ao prog 117 [.agg x.c] (.agg x.c):=by
 have hn:=o8 x.n hx
 show ao _ _ [.agg [.sl x.n.length (x.n.map bn),.int .i64 x.k.h,.str x.k.id,.str x.k.root]] (.agg [.sl x.n.length (x.n.map bn),.int .i64 x.k.h,.str x.k.id,.str x.k.root])
 unfold aW at hn
 refine ah func117 rfl call117 ?_ ?_
 rotate_left 1
 refine af (s':=(.agg [.sl x.n.length (x.n.map bn),.int .i64 x.k.h,.str x.k.id,.str x.k.root]:V)::zJ 7) rfl ?_;dsimp only[zJ]
 repeat' (first|refine Z2 hn ?_|refine Zt ?_|fail)
 ·simp
  exact .pure (by simp)
 ·simp
theorem vJ(r:List Sb)(i:Nat)(h:i<r.length):((r.flatMap Sb.c).drop (i*2)).take 2=r[i].c:=pW Sb.fl r i h
theorem FR(l:List Sb)(hl:l.length≤131072)(hw: ∀x∈l,WS x):ao prog 112 [.sl l.length (l.flatMap Sb.c),.fn (.func 113) []] (.sl l.length (l.flatMap Sb.c)):=by
 refine ah func112 rfl call112 ?_ ?_
 rotate_left 1
 refine af (s':=(.sl l.length (l.flatMap Sb.c):V)::(.fn (.func 113) []:V)::zJ 22) rfl ?_;dsimp only[zJ]
 have hc:=Ms l.length (l.flatMap Sb.c) (eD Sb.fl l) (by omega) (qa Sb.rP l) (qD l)
 have eu:=eD Sb.fl l
 have cv: ∀i (h:i<l.length),((l.flatMap Sb.c).drop (i*2)).take 2=l[i].c:=vJ l
 have dC: ∀x∈l,ao prog 113 [.agg x.c] (.agg x.c):=fun x hx=>Sy x (hw x hx)
 have lv:=qD l
 generalize l.flatMap Sb.c=cells at*
 repeat' (first|(refine Zu ?_;intro K9 h9;refine Zd ?_;((first|refine u5 hc lv (by simp) ?_|skip)<;>(refine Zf h9 ?_;clear h9 K9)))|refine Zt ?_|(refine Yb rfl ?_ ?_<;>intro ab<;>(try simp at ab)<;>try exact dc))
 ·refine aV (fun i=>(zN 4 (zS 5 (zN 2 (some (V.int .i64 i)::zS 12 []))))) (fun i=> [.live cells]) l.length ?_ fun i hi KL hL=>?_
  ·dsimp only[aE,zN,zS]
   exact Yr [some 0] (by simp[ae,az,aN lv])
  dsimp only[aE,zN,zS]
  rcases apQ i l.length with hi|hi
  ·have hg:=cv i hi
   have bZ:=dC l[i] (apY hi)
   obtain⟨x,dY⟩: ∃x,l[i]=x:=⟨_,rfl⟩
   rw[dY]at bZ hg
   have mW:=Aj cells (i*2) x.c (by simpa using hg) (by simp;omega)
   have e:x.c=[.sl x.p.length (x.p.flatMap Gn.c),.sl x.x.length (x.x.flatMap Gn.c)]:=rfl
   rw[e]at mW hg bZ
   simp only[eB,aq8]at mW
   repeat' (first|refine Z1 (Zj hg mW) bZ ?_|refine Zt ?_|(refine Yb rfl ?_ ?_<;>intro ab<;>(try simp at ab)<;>try exact dc))
   refine hL _ _ hi ?_
   exact Yr [some 0] (by simp[ae,az,aN lv])
  ·obtain rfl:i=l.length:=by omega
   repeat' (first|refine Zq ?_|refine Zt ?_|(refine Yb rfl ?_ ?_<;>intro ab<;>(try simp at ab)<;>try exact dc))
   exact bK rfl (by omega) lv
 ·exact .sl
theorem Xo(r:List An)(i:Nat)(h:i<r.length):((r.flatMap An.c).drop (i*4)).take 4=r[i].c:=pW An.fl r i h
theorem FT(l:List An)(hl:l.length≤131072)(hw: ∀x∈l,WN x.n):ao prog 116 [.sl l.length (l.flatMap An.c),.fn (.func 117) []] (.sl l.length (l.flatMap An.c)):=by
 refine ah func116 rfl call116 ?_ ?_
 rotate_left 1
 refine af (s':=(.sl l.length (l.flatMap An.c):V)::(.fn (.func 117) []:V)::zJ 22) rfl ?_;dsimp only[zJ]
 have hc:=Mr l.length (l.flatMap An.c) (eD An.fl l) (by omega) (qa An.rP l) (zi l)
 have eu:=eD An.fl l
 have cv: ∀i (h:i<l.length),((l.flatMap An.c).drop (i*4)).take 4=l[i].c:=Xo l
 have dC: ∀x∈l,ao prog 117 [.agg x.c] (.agg x.c):=fun x hx=>Sz x (hw x hx)
 have lv:=zi l
 generalize l.flatMap An.c=cells at*
 repeat' (first|(refine Zu ?_;intro K9 h9;refine Zd ?_;((first|refine u5 hc lv (by simp) ?_|skip)<;>(refine Zf h9 ?_;clear h9 K9)))|refine Zt ?_|(refine Yb rfl ?_ ?_<;>intro ab<;>(try simp at ab)<;>try exact dc))
 ·refine aV (fun i=>(zN 4 (zS 5 (zN 2 (some (V.int .i64 i)::zS 12 []))))) (fun i=> [.live cells]) l.length ?_ fun i hi KL hL=>?_
  ·dsimp only[aE,zN,zS]
   exact Yr [some 0] (by simp[ae,az,aN lv])
  dsimp only[aE,zN,zS]
  rcases apQ i l.length with hi|hi
  ·have hg:=cv i hi
   have bZ:=dC l[i] (apY hi)
   obtain⟨x,dY⟩: ∃x,l[i]=x:=⟨_,rfl⟩
   rw[dY]at bZ hg
   have mW:=Aj cells (i*4) x.c (by simpa using hg) (by simp;omega)
   have e:x.c=[.sl x.n.length (x.n.map bn),.int .i64 x.k.h,.str x.k.id,.str x.k.root]:=rfl
   rw[e]at mW hg bZ
   simp only[eB,aq8]at mW
   repeat' (first|refine Z1 (Zj hg mW) bZ ?_|refine Zt ?_|(refine Yb rfl ?_ ?_<;>intro ab<;>(try simp at ab)<;>try exact dc))
   refine hL _ _ hi ?_
   exact Yr [some 0] (by simp[ae,az,aN lv])
  ·obtain rfl:i=l.length:=by omega
   repeat' (first|refine Zq ?_|refine Zt ?_|(refine Yb rfl ?_ ?_<;>intro ab<;>(try simp at ab)<;>try exact dc))
   exact bK rfl (by omega) lv
 ·exact .sl
theorem B7(l:List Sb)(hl:Bn l):ao prog 68 [.agg [cU l]] (.agg [cU l]):=by
 have hn:=FR l hl.1 hl.2
 unfold cU
 refine ah func68 rfl call68 ?_ ?_
 rotate_left 1
 refine af (s':=(.agg [.sl l.length (l.flatMap Sb.c)]:V)::zJ 7) rfl ?_;dsimp only[zJ]
 repeat' (first|refine Z2 hn ?_|refine Zt ?_|fail)
 ·simp
  exact .pure (by simp)
 ·simp
theorem OH(l:List An)(hl:WA l):ao prog 71 [jh l] (jh l):=by
 have hn:=FT l hl.1 hl.2
 unfold jh
 refine ah func71 rfl call71 ?_ ?_
 rotate_left 1
 refine af (s':=(.sl l.length (l.flatMap An.c):V)::zJ 4) rfl ?_;dsimp only[zJ]
 repeat' (first|refine Z2 hn ?_|refine Zt ?_|fail)
 ·exact .pure .sl
 ·exact .sl
end Go.Proofs.YtjlnoogcggdhkaaGreatDoor
namespace Go.Stp
open Go.VS
def ja(c:UInt8):UInt8:=if 65≤c.toNat∧c.toNat≤90 then c+32 else c
def mI(st:List UInt8×Bool)(c:UInt8):List UInt8×Bool:=
 if c=32 then(st.1,decide (0<st.1.length))else(st.1++(if st.2 then[32]else[])++[ja c],false)
def fst(s:List UInt8)(i:Nat):List UInt8×Bool:=(s.take i).foldl mI ([],false)
def hZ(s:List UInt8):List UInt8:=(fst s s.length).1
theorem mb(s:List UInt8)(i:Nat)(h:i<s.length):fst s (i+1)=mI (fst s i) s[i]:=by
 rw[fst,aqA h,List.foldl_append];rfl
theorem Bj(s:List UInt8): ∀i,(fst s i).1.length≤2*i
 |0=>by simp[fst]
 |i+1=>by
  have:=Bj s i
  rcases apQ i s.length with h|h
  ·rw[mb s i h]
   unfold mI
   split
   ·simp;omega
   ·split<;>simp<;>omega
  ·have:fst s (i+1)=fst s i:=by rw[fst,fst,apR h,apR (by omega)]
   rw[this];omega
theorem Bk(c:UInt8)(h: ¬(65≤c.toNat∧c.toNat≤90)):ja c=c:=by rw[ja,if_neg h]
theorem Bl(c:UInt8)(h:65≤c.toNat∧c.toNat≤90):(ja c).toNat=c.toNat+32:=by rw[ja,if_pos h];simp;omega
theorem FU(s:List UInt8)(i:Nat):(fst s i).2=true→0<(fst s i).1.length:=by
 induction i with
 |zero=>simp[fst]
 |succ i ih=>
  rcases apQ i s.length with h|h
  ·rw[mb s i h]
   unfold mI
   split
   ·simp
   ·simp
  ·have:fst s (i+1)=fst s i:=by rw[fst,fst,apR h,apR (by omega)]
   rw[this];exact ih
end Go.Stp
namespace Go.Proofs.YtjlnoogcggdhkaaGreatDoor
open Go.Proofs.Tryz
open Go.VS Go.Stp
set_option linter.all false
attribute [local irreducible] bj au aS bz
theorem Hh(s:List UInt8)(hs:s.length≤1000000):ao prog 229 [.str s] (.str (hZ s)):=by
 refine ah func229 rfl call229 ?_ ?_
 rotate_left 1
 refine af (s':=(.str s:V)::zJ 37) rfl ?_;dsimp only[zJ]
 repeat' (first|refine Zr ?_|refine Zt ?_|(refine Yb rfl ?_ ?_<;>intro ab<;>(try simp at ab)<;>try exact dc)|refine Zo ?_|fail)
 ·refine aV (fun i=>(some V.aa::none::some V.aa::some (V.av 1 0 (fst s i).1.length 1)::some (V.bool (fst s i).2)::none::zS 2 (zN 2 (some (V.int .i64 i)::zS 27 [])))) (fun i=> [.live (s.map aF),.live ((fst s i).1.map aF)]) s.length ?_ fun i hi KL hL=>?_
  ·dsimp only[aE,zN,zS]
   exact Le.mk [some 0,none] (by simp[fst]) (aZ (by simp) (by simp[ae,fst])) (by simp)
  dsimp only[aE,zN,zS]
  rcases apQ i s.length with hi|hi
  ·have hl:=Bj s i
   have mz:=mb s i hi
   have n7:=FU s i
   have hc:(s[i]).toNat<256:=aqk _
   rw[mz]at hL
   clear mz
   generalize fst s i=st at*
   obtain⟨out,V0⟩:=st
   dsimp only at hl n7
   obtain⟨c,bX⟩: ∃c,s[i]=c:=⟨_,rfl⟩
   rw[bX]at hL hc
   by_cases kX:c=32
   ·subst kX
    rw[show mI (out,V0) 32=(out,decide (0<out.length))from by simp[mI]]at hL
    repeat' (first|refine Z3 bX ?_|refine Zt ?_|(refine Yb rfl ?_ ?_<;>intro ab<;>(try simp at ab)<;>try exact dc)|refine Z6 bX ?_|fail)
    refine hL _ _ hi ?_
    exact Yr [some 0,some 1] (by simp[ae,apR])
   have Ak: ¬((c.toNat:Int)=32):=fun e=>kX (by apply ard.1;simp;omega)
   have e1:mI (out,V0) c=(out++(if V0 then[32]else[])++[ja c],false):=by simp[mI,kX]
   rw[e1]at hL
   clear e1
   cases V0
   ·by_cases a1:(65:Int)≤c.toNat<;>by_cases a2:(c.toNat:Int)≤90<;>(try(exfalso;omega))
    ·have hu:=Bl c ⟨by omega,by omega⟩
     rw[show(out++(if false=true then[32]else[])++[ja c])=out++[ja c]from by simp]at hL
     repeat' (first|refine Z3 (Zj bX (Zj Ak (Zj a1 a2))) ?_|refine Zt ?_|(refine Yb rfl ?_ ?_<;>intro ab<;>(try simp at ab)<;>try exact dc)|refine Z6 (Zj bX (Zj Ak (Zj a1 a2))) ?_|fail)
     refine hL _ _ hi ?_
     exact Yr [some 0,some 3] (by simp[ae,apR,aF,hu])
    all_goals
     have hid:=Bk c (by omega)
     rw[show(out++(if false=true then[32]else[])++[ja c])=out++[ja c]from by simp]at hL
     repeat' (first|refine Z3 (Zj bX (Zj Ak (Zj a1 a2))) ?_|refine Zt ?_|(refine Yb rfl ?_ ?_<;>intro ab<;>(try simp at ab)<;>try exact dc)|refine Z6 (Zj bX (Zj Ak (Zj a1 a2))) ?_|fail)
     rw[hid]at hL
     refine hL _ _ hi ?_
     exact Yr [some 0,some 3] (by simp[ae,apR,aF])
   ·by_cases a1:(65:Int)≤c.toNat<;>by_cases a2:(c.toNat:Int)≤90<;>(try(exfalso;omega))
    ·have hu:=Bl c ⟨by omega,by omega⟩
     rw[show(out++(if true=true then[32]else[])++[ja c])=out++[32]++[ja c]from by simp]at hL
     repeat' (first|refine Z3 (Zj bX (Zj Ak (Zj a1 a2))) ?_|refine Zt ?_|(refine Yb rfl ?_ ?_<;>intro ab<;>(try simp at ab)<;>try exact dc)|refine Z6 (Zj bX (Zj Ak (Zj a1 a2))) ?_|fail)
     refine hL _ _ hi ?_
     exact Yr [some 0,some 5] (by simp[ae,apR,aF,hu])
    all_goals
     have hid:=Bk c (by omega)
     rw[show(out++(if true=true then[32]else[])++[ja c])=out++[32]++[ja c]from by simp]at hL
     repeat' (first|refine Z3 (Zj bX (Zj Ak (Zj a1 a2))) ?_|refine Zt ?_|(refine Yb rfl ?_ ?_<;>intro ab<;>(try simp at ab)<;>try exact dc)|refine Z6 (Zj bX (Zj Ak (Zj a1 a2))) ?_|fail)
     rw[hid]at hL
     refine hL _ _ hi ?_
     exact Yr [some 0,some 5] (by simp[ae,apR,aF])
  ·obtain rfl:i=s.length:=by omega
   have hl:=Bj s s.length
   obtain⟨X,hX⟩: ∃X,(fst s s.length).1=X:=⟨_,rfl⟩
   rw[hX]at hl
   have hB:=cS (l:=X) (n:=X.length) (by omega)
   have pL:List.take X.length X=X:=apR (by omega)
   repeat' (first|refine Z3 (Zj hX (Zj hB pL)) ?_|refine Zt ?_|(refine Yb rfl ?_ ?_<;>intro ab<;>(try simp at ab)<;>try exact dc)|refine Z6 (Zj hX (Zj hB pL)) ?_|fail)
   rw[show hZ s=X from hX]
   exact .pure .str
 ·exact .str
theorem Mu(a b:List UInt8)(ha:a.length≤131072)(hb:b.length≤131072):ao prog 196 [.str a,.str b] (.bool (hZ a==hZ b)):=by
 have h1:=Hh a (by omega)
 have h2:=Hh b (by omega)
 refine ah func196 rfl call196 ?_ ?_
 rotate_left 1
 refine af (s':=(.str a:V)::(.str b:V)::zJ 8) rfl ?_;dsimp only[zJ]
 repeat' (first|refine Z2 (Zj h1 h2) ?_|refine Zt ?_|fail)
 ·exact .pure .bool
 ·exact .bool
end Go.Proofs.YtjlnoogcggdhkaaGreatDoor
namespace Go.Stp
open Go.VS
def tU(a b:At):Bool:=a.t==b.t&&hZ a.v==hZ b.v
def hasB(r:List At)(a:At):Bool:=r.any fun b=>tU a b
def fM(a b:List At):Bool:=decide (a.length=b.length)&&(a.all (hasB b)&&b.all (hasB a))
def et(n base:Nm):Bool:=decide (base.length≤n.length)&&(List.zipWith fM n base).all id
def jY(a b:Nm):Bool:=decide (a.length=b.length)&&et a b
theorem any_false{α:Type}{l:List α}{p:α→Bool}(h: ∀j (h:j<l.length),p l[j]=false):l.any p=false:=by
 rw[List.any_eq_false]
 intro x hx
 obtain⟨j,hj,rfl⟩:=aqR hx
 simp[h j hj]
theorem any_true{α:Type}{l:List α}{p:α→Bool}{i:Nat}(hi:i<l.length)(h:p l[i]=true):l.any p=true:=by
 rw[List.any_eq_true]
 exact⟨l[i],apY _,h⟩
theorem all_false{α:Type}{l:List α}{p:α→Bool}{i:Nat}(hi:i<l.length)(h:p l[i]=false):l.all p=false:=by
 rw[arz]
 exact⟨l[i],apY _,by simp[h]⟩
theorem all_true{α:Type}{l:List α}{p:α→Bool}(h: ∀j (h:j<l.length),p l[j]=true):l.all p=true:=by
 rw[ap1]
 intro x hx
 obtain⟨j,hj,rfl⟩:=aqR hx
 exact h j hj
theorem qA(r:List At)(i:Nat)(h:i<r.length):((r.flatMap At.c).drop (i*3)).take 3=r[i].c:=pW At.fl r i h
theorem Hi{n base:Nm}{i:Nat}(h1:i<base.length)(h2:base.length≤n.length)(h:fM n[i] base[i]=false):et n base=false:=by
 simp only[et,Bool.and_eq_false_iff]
 right
 rw[arz]
 refine⟨fM n[i] base[i],?_,by simp[h]⟩
 have:(List.zipWith fM n base)[i]'(by simp;omega)=fM n[i] base[i]:=by simp
 rw[←this]
 exact apY _
theorem K5{n base:Nm}(h2:base.length≤n.length)(h: ∀j (h:j<base.length),fM n[j] base[j]=true):et n base=true:=by
 simp only[et,apP,decide_eq_true_eq]
 refine⟨h2,?_⟩
 rw[ap1]
 intro x hx
 obtain⟨j,hj,rfl⟩:=aqR hx
 simp at hj
 simp[h j (by omega)]
end Go.Stp
namespace Go.Proofs.YtjlnoogcggdhkaaGreatDoor
open Go.Proofs.Tryz
open Go.VS Go.Stp
set_option linter.all false
attribute [local irreducible] bj au aS bz
theorem Hj(r:List At)(a:At)(hl:r.length≤131072)(hr: ∀b∈r,b.v.length≤131072)(ha:a.v.length≤131072):ao prog 151 [bn r,.agg a.c] (.bool (hasB r a)):=by
 show ao _ _ [.sl r.length (r.flatMap At.c),.agg [.str a.t,.int .i64 a.k,.str a.v]] _
 refine ah func151 rfl call151 ?_ ?_
 rotate_left 1
 refine af (s':=(.sl r.length (r.flatMap At.c):V)::(.agg [.str a.t,.int .i64 a.k,.str a.v]:V)::zJ 24) rfl ?_;dsimp only[zJ]
 have eu:=la r
 have cv:=qA r
 generalize r.flatMap At.c=cells at*
 repeat' (first|refine Zr ?_|refine Zt ?_|(refine Yb rfl ?_ ?_<;>intro ab<;>(try simp at ab)<;>try exact dc)|refine Zo ?_|fail)
 ·refine bm (α:=Nat) (fun i=>(zS 2 (zN 2 (some V.aa::none::some V.aa::zN 2 (some (V.int .i64 i)::zS 16 []))))) (fun i=> [.live [.str a.t,.int .i64 a.k,.str a.v]]) (fun i=>i≤r.length∧ ∀j (h:j<r.length),j<i→tU a r[j]=false) (fun i=>r.length-i) 0 ⟨by omega,fun j _ h=>by omega⟩ ?_ ?_
  ·dsimp only[aE,zN,zS]
   exact Yr [some 0] (by simp[ae])
  rintro i ⟨hi,hall⟩ KL hL
  dsimp only[aE,zN,zS]
  rcases apQ i r.length with hi|hi
  ·have aP:tU a r[i]=false→i+1≤r.length∧ ∀j (h:j<r.length),j<i+1→tU a r[j]=false:=fun hx=>⟨by omega,fun j hj h=>by
    rcases apQ j i with h3|h3
    ·exact hall j hj h3
    ·obtain rfl:j=i:=by omega
     exact hx⟩
   have mf:tU a r[i]=true→hasB r a=true:=any_true hi
   have hg:=cv i hi
   have hx:r[i].v.length≤131072:=hr _ (apY _)
   obtain⟨x,dY⟩: ∃x,r[i]=x:=⟨_,rfl⟩
   rw[dY]at aP mf hg hx
   rw[show x.c=[.str x.t,.int .i64 x.k,.str x.v]from rfl]at hg
   have hm:=Mu a.v x.v ha hx
   by_cases h1:a.t=x.t
   ·by_cases h2:hZ a.v=hZ x.v
    ·repeat' (first|refine Z4 (Zj hg (Zj h1 h2)) hm ?_|refine Zt ?_|(refine Yb rfl ?_ ?_<;>intro ab<;>(try simp at ab)<;>try exact dc)|refine Z6 (Zj hg (Zj h1 h2)) ?_|fail)
     rw[mf (by simp[tU,h1,h2])]
     exact .pure .bool
    ·have h3: ¬hZ x.v=hZ a.v:=fun e=>h2 e.symm
     repeat' (first|refine Z4 (Zj hg (Zj h1 (Zj h2 h3))) hm ?_|refine Zt ?_|(refine Yb rfl ?_ ?_<;>intro ab<;>(try simp at ab)<;>try exact dc)|refine Z6 (Zj hg (Zj h1 (Zj h2 h3))) ?_|fail)
     refine hL (i+1) _ _ (aP (by simp[tU,h2])) (by omega) ?_
     exact Yr [some 0] (by simp[ae,h1])
   ·have h3: ¬x.t=a.t:=fun e=>h1 e.symm
    repeat' (first|refine Z4 (Zj hg (Zj h1 h3)) hm ?_|refine Zt ?_|(refine Yb rfl ?_ ?_<;>intro ab<;>(try simp at ab)<;>try exact dc)|refine Z6 (Zj hg (Zj h1 h3)) ?_|fail)
    refine hL (i+1) _ _ (aP (by simp[tU,h1])) (by omega) ?_
    exact Yr [some 0] (by simp[ae])
  ·repeat' (first|refine Zr ?_|refine Zt ?_|(refine Yb rfl ?_ ?_<;>intro ab<;>(try simp at ab)<;>try exact dc)|refine Zo ?_|fail)
   rw[show hasB r a=false from any_false fun j hj=>hall j hj (by omega)]
   exact .pure .bool
 ·exact .bool
theorem PF(a b:List At)(yC:a.length≤131072)(ha: ∀x∈a,x.v.length≤131072)(Ie:b.length≤131072)(hb: ∀x∈b,x.v.length≤131072):ao prog 100 [bn a,bn b] (.bool (fM a b)):=by
 show ao _ _ [.sl a.length (a.flatMap At.c),.sl b.length (b.flatMap At.c)] _
 refine ah func100 rfl call100 ?_ ?_
 rotate_left 1
 refine af (s':=(.sl a.length (a.flatMap At.c):V)::(.sl b.length (b.flatMap At.c):V)::zJ 31) rfl ?_;dsimp only[zJ]
 by_cases h0: ¬(a.length:Int)=b.length
 ·repeat' (first|refine Z3 h0 ?_|refine Zt ?_|(refine Yb rfl ?_ ?_<;>intro ab<;>(try simp at ab)<;>try exact dc)|refine Z6 h0 ?_|fail)
  rw[show fM a b=false by simp[fM];omega]
  exact .pure .bool
 replace h0:(a.length:Int)=b.length:=by omega
 have hE:fM a b=(a.all (hasB b)&&b.all (hasB a)):=by simp[fM];omega
 rw[hE]
 have hm1: ∀x∈a,ao prog 151 [.sl b.length (b.flatMap At.c),.agg [.str x.t,.int .i64 x.k,.str x.v]] (.bool (hasB b x)):=fun x hx=>Hj b x Ie hb (ha _ hx)
 have j3: ∀x∈b,ao prog 151 [.sl a.length (a.flatMap At.c),.agg [.str x.t,.int .i64 x.k,.str x.v]] (.bool (hasB a x)):=fun x hx=>Hj a x yC ha (hb _ hx)
 have eu:=la a
 have cv:=qA a
 have agz:=la b
 have FV:=qA b
 generalize a.flatMap At.c=ca at*
 generalize b.flatMap At.c=cb at*
 repeat' (first|refine Z3 h0 ?_|refine Zt ?_|(refine Yb rfl ?_ ?_<;>intro ab<;>(try simp at ab)<;>try exact dc)|refine Z6 h0 ?_|fail)
 ·refine bm (α:=Nat) (fun i=>(zN 4 (zS 8 (none::some (V.int .i64 i)::zS 19 [])))) (fun i=> []) (fun i=>i≤b.length∧ ∀j (h:j<b.length),j<i→hasB b (a[j]'(by omega))=true∧hasB a b[j]=true) (fun i=>b.length-i) 0 ⟨by omega,fun j _ h=>by omega⟩ ?_ ?_
  ·dsimp only[aE,zN,zS]
   exact Yr [] (by simp[ae])
  rintro i ⟨hi,hall⟩ KL hL
  dsimp only[aE,zN,zS]
  rcases apQ i b.length with hi|hi
  ·have zF:i<a.length:=by omega
   have aP:hasB b a[i]=true→hasB a b[i]=true→i+1≤b.length∧ ∀j (h:j<b.length),j<i+1→hasB b (a[j]'(by omega))=true∧hasB a b[j]=true:=fun hx hy=>⟨by omega,fun j hj h=>by
    rcases apQ j i with h3|h3
    ·exact hall j hj h3
    ·obtain rfl:j=i:=by omega
     exact⟨hx,hy⟩⟩
   have SA:hasB b a[i]=false→(a.all (hasB b)&&b.all (hasB a))=false:=fun h=>by rw[all_false zF h];rfl
   have BS:hasB a b[i]=false→(a.all (hasB b)&&b.all (hasB a))=false:=fun h=>by rw[all_false hi h,Bool.and_false]
   have hg:=cv i zF
   have lL:=FV i hi
   have hm:=hm1 a[i] (apY _)
   have j3:=j3 b[i] (apY _)
   obtain⟨x,dY⟩: ∃x,a[i]=x:=⟨_,rfl⟩
   obtain⟨y,Al⟩: ∃x,b[i]=x:=⟨_,rfl⟩
   rw[dY]at aP hg hm SA
   rw[Al]at aP lL j3 BS
   rw[show x.c=[.str x.t,.int .i64 x.k,.str x.v]from rfl]at hg
   rw[show y.c=[.str y.t,.int .i64 y.k,.str y.v]from rfl]at lL
   cases h1:hasB b x
   ·rw[h1]at hm
    repeat' (first|refine Z4 (Zj h0 (Zj hg (Zj lL h1))) (Zj hm j3) ?_|refine Zt ?_|(refine Yb rfl ?_ ?_<;>intro ab<;>(try simp at ab)<;>try exact dc)|refine Z6 (Zj h0 (Zj hg (Zj lL h1))) ?_|fail)
    rw[SA h1]
    exact .pure .bool
   ·cases h2:hasB a y
    ·rw[h1]at hm
     rw[h2]at j3
     repeat' (first|refine Z4 (Zj h0 (Zj hg (Zj lL (Zj h1 h2)))) (Zj hm j3) ?_|refine Zt ?_|(refine Yb rfl ?_ ?_<;>intro ab<;>(try simp at ab)<;>try exact dc)|refine Z6 (Zj h0 (Zj hg (Zj lL (Zj h1 h2)))) ?_|fail)
     rw[BS h2]
     exact .pure .bool
    ·rw[h1]at hm
     rw[h2]at j3
     repeat' (first|refine Z4 (Zj h0 (Zj hg (Zj lL (Zj h1 h2)))) (Zj hm j3) ?_|refine Zt ?_|(refine Yb rfl ?_ ?_<;>intro ab<;>(try simp at ab)<;>try exact dc)|refine Z6 (Zj h0 (Zj hg (Zj lL (Zj h1 h2)))) ?_|fail)
     refine hL (i+1) _ _ (aP h1 h2) (by omega) ?_
     exact Yr [] (by simp[ae])
  ·repeat' (first|refine Z3 h0 ?_|refine Zt ?_|(refine Yb rfl ?_ ?_<;>intro ab<;>(try simp at ab)<;>try exact dc)|refine Z6 h0 ?_|fail)
   rw[all_true fun j hj=>(hall j (by omega) (by omega)).1,all_true fun j hj=>(hall j hj (by omega)).2]
   exact .pure .bool
 ·exact .bool
theorem yV(a b:Nm)(ha:WN a)(hb:WN b):ao prog 53 [.agg [aW a],.agg [aW b]] (.bool (et a b)):=by
 unfold aW
 refine ah func53 rfl call53 ?_ ?_
 rotate_left 1
 refine af (s':=(.agg [.sl a.length (a.map bn)]:V)::(.agg [.sl b.length (b.map bn)]:V)::zJ 30) rfl ?_;dsimp only[zJ]
 by_cases h0:(a.length:Int)<b.length
 ·repeat' (first|refine Z0 h0 ?_|refine Zt ?_|(refine Zk 0 [] ?_;refine Zl ?_)|(refine Yb rfl ?_ ?_<;>intro ab<;>(try simp at ab)<;>try exact dc))
  rw[show et a b=false by simp[et];omega]
  exact .pure .bool
 have yC:=ha.1
 have Ie:=hb.1
 have SB:b.length≤a.length:=by omega
 repeat' (first|refine Z0 h0 ?_|refine Zt ?_|(refine Zk 0 [] ?_;refine Zl ?_)|(refine Yb rfl ?_ ?_<;>intro ab<;>(try simp at ab)<;>try exact dc))
 ·refine bm (α:=Nat) (fun i=>(zS 2 (zN 2 (zS 11 (none::some (V.int .i64 i)::zS 15 []))))) (fun i=> [.live [.sl a.length (a.map bn)],.live [.sl b.length (b.map bn)]]) (fun i=>i≤b.length∧ ∀j (h:j<b.length),j<i→fM (a[j]'(by omega)) b[j]=true) (fun i=>b.length-i) 0 ⟨by omega,fun j _ h=>by omega⟩ ?_ ?_
  ·dsimp only[aE,zN,zS]
   exact Yr [some 0,some 1] (by simp[ae])
  rintro i ⟨hi,hall⟩ KL hL
  dsimp only[aE,zN,zS]
  rcases apQ i b.length with hi|hi
  ·have zF:i<a.length:=by omega
   have aP:fM a[i] b[i]=true→i+1≤b.length∧ ∀j (h:j<b.length),j<i+1→fM (a[j]'(by omega)) b[j]=true:=fun hx=>⟨by omega,fun j hj h=>by
    rcases apQ j i with h3|h3
    ·exact hall j hj h3
    ·obtain rfl:j=i:=by omega
     exact hx⟩
   have hf:=Hi hi SB
   have hm:=PF a[i] b[i] (ha.2 _ (apY _)).1 (ha.2 _ (apY _)).2 (hb.2 _ (apY _)).1 (hb.2 _ (apY _)).2
   obtain⟨x,dY⟩: ∃x,a[i]=x:=⟨_,rfl⟩
   obtain⟨y,Al⟩: ∃x,b[i]=x:=⟨_,rfl⟩
   rw[dY,Al]at aP hm hf
   cases h1:fM x y
   ·rw[h1]at hm
    repeat' (first|(refine Zu ?_;intro K9 h9;simp(disch:=first|exact dd|fail) [h0,dY,Al,h1];refine Zm ?_;((first|refine⟨_,hm,?_⟩|skip)<;>(refine Zf h9 ?_;clear h9 K9)))|refine Zt ?_|((first|refine Zk 0 [0,0,0,0,1,0,0,0,0,1,1] ?_|refine Zk 0 [] ?_);refine Zl ?_)|(refine Yb rfl ?_ ?_<;>intro ab<;>(try simp at ab)<;>try exact dc))
    rw[hf h1]
    exact .pure .bool
   ·rw[h1]at hm
    repeat' (first|(refine Zu ?_;intro K9 h9;simp(disch:=first|exact dd|fail) [h0,dY,Al,h1];refine Zm ?_;((first|refine⟨_,hm,?_⟩|skip)<;>(refine Zf h9 ?_;clear h9 K9)))|refine Zt ?_|((first|refine Zk 0 [0,0,0,0,1,0,0,0,0,1,1] ?_|refine Zk 0 [] ?_);refine Zl ?_)|(refine Yb rfl ?_ ?_<;>intro ab<;>(try simp at ab)<;>try exact dc))
    refine hL (i+1) _ _ (aP h1) (by omega) ?_
    exact Yr [some 0,some 1] (by simp[ae])
  ·repeat' (first|refine Z0 h0 ?_|refine Zt ?_|(refine Zk 0 [] ?_;refine Zl ?_)|(refine Yb rfl ?_ ?_<;>intro ab<;>(try simp at ab)<;>try exact dc))
   rw[K5 SB fun j hj=>hall j hj (by omega)]
   exact .pure .bool
 ·exact .bool
theorem Bv(a b:Nm)(ha:WN a)(hb:WN b):ao prog 24 [.agg [aW a],.agg [aW b]] (.bool (jY a b)):=by
 have hm:=yV a b ha hb
 unfold aW at*
 refine ah func24 rfl call24 ?_ ?_
 rotate_left 1
 refine af (s':=(.agg [.sl a.length (a.map bn)]:V)::(.agg [.sl b.length (b.map bn)]:V)::zJ 15) rfl ?_;dsimp only[zJ]
 have yC:=ha.1
 have Ie:=hb.1
 by_cases h0:(a.length:Int)=b.length
 ·repeat' (first|refine Z4 h0 hm ?_|refine Zt ?_|refine Z6 h0 ?_|fail)
  rw[show jY a b=et a b by simp[jY];omega]
  exact .pure .bool
 ·repeat' (first|refine Z4 h0 hm ?_|refine Zt ?_|refine Z6 h0 ?_|fail)
  rw[show jY a b=false by simp[jY];omega]
  exact .pure .bool
 exact .bool
end Go.Proofs.YtjlnoogcggdhkaaGreatDoor
