/-
 CONTRACTS: the parts of trees.
 Conditions: none.
-/
import Derived.Test.YtjlnoogcggdhkaaGreatDoorGf
set_option maxRecDepth 100000
namespace Go.Proofs.YtjlnoogcggdhkaaGreatDoor
open Go.Proofs.Tryz
open Go.VS
set_option linter.all false
attribute [local irreducible] bj au aS bz gl eO
theorem La(n:Int):ao prog 149 [.int .i64 n] (.str (cg n)):=by
 refine ah func149 rfl call149 ?_ ?_
 rotate_left 1
 refine af (s':=(.int .i64 n:V)::zJ 15) rfl ?_;dsimp only[zJ]
 repeat' (first|refine Zq ?_|refine Zt ?_|fail)
 ·simp[sh,cg]
  exact .pure .str
 ·exact .str
theorem UW(n:Int):ao prog 150 [.int .i64 n] (.str (lI n)):=by
 refine ah func150 rfl call150 ?_ ?_
 rotate_left 1
 refine af (s':=(.int .i64 n:V)::zJ 6) rfl ?_;dsimp only[zJ]
 repeat' (first|refine Zq ?_|refine Zt ?_|fail)
 ·simp[sh,lI]
  exact .pure .str
 ·exact .str
def ln(id:List UInt8)(l i:Int)(a b:List UInt8):List UInt8:=eO ([78]++id++lI l++cg i++a++b)
def gE(id root:List UInt8)(leaf:Int)(m:List UInt8):List UInt8:=eO ([77]++id++root++cg leaf++m)
def ck(ai:List UInt8):List UInt8:=eO ([73]++ai)
@[simp] theorem B9(id:List UInt8)(l i:Int)(a b:List UInt8):(ln id l i a b).length=16:=by rw[ln,iB]
@[simp] theorem L8(id root:List UInt8)(leaf:Int)(m:List UInt8):(gE id root leaf m).length=16:=by rw[gE,iB]
@[simp] theorem xR(ai:List UInt8):(ck ai).length=16:=by rw[ck,iB]
theorem BR(id:List UInt8)(l i:Int)(a b:List UInt8)(hi:id.length≤1000)(ha:a.length≤1000)(hb:b.length≤1000):
  ao prog 99 [.str id,.int .i64 l,.int .i64 i,.str a,.str b] (.str (ln id l i a b)):=by
 refine ah func99 rfl call99 ?_ ?_
 rotate_left 1
 refine af (s':=(.str id:V)::(.int .i64 l:V)::(.int .i64 i:V)::(.str a:V)::(.str b:V)::zJ 15) rfl ?_;dsimp only[zJ]
 repeat' (first|(refine Zu ?_;intro K9 h9;refine Zd ?_;((first|refine Ap (La _) ?_|refine Ap (UW _) ?_|refine aI (qp [[78],id,lI l,cg i,a,b] (by simp) (by simp;omega)) ⟨bK rfl (by simp) (by simp),trivial⟩ .str ?_|skip)<;>(refine Zf h9 ?_;clear h9 K9)))|refine Zt ?_|fail)
 ·simp[ln]
  exact .pure .str
 ·exact .str
def CD(h:Int)(id root:List UInt8):V:=.agg [.int .i64 h,.str id,.str root]
@[simp] theorem aes(h:Int)(id root:List UInt8):(CD h id root).Pure:=by simp[CD]
theorem J5(h:Int)(id root:List UInt8)(leaf:Int)(m:List UInt8)(hi:id.length≤1000)(hr:root.length≤1000)(hm:m.length≤200000000):
  ao prog 98 [.agg [.int .i64 h,.str id,.str root],.int .i64 leaf,.str m] (.str (gE id root leaf m)):=by
 refine ah func98 rfl call98 ?_ ?_
 rotate_left 1
 refine af (s':=(.agg [.int .i64 h,.str id,.str root]:V)::(.int .i64 leaf:V)::(.str m:V)::zJ 13) rfl ?_;dsimp only[zJ]
 repeat' (first|(refine Zu ?_;intro K9 h9;refine Zd ?_;((first|refine Ap (La _) ?_|refine aI (qp [[77],id,root,cg leaf,m] (by simp) (by simp;omega)) ⟨bK rfl (by simp) (by simp),trivial⟩ .str ?_|skip)<;>(refine Zf h9 ?_;clear h9 K9)))|refine Zt ?_|(refine Zk 1 [] ?_;refine Zl ?_)|fail)
 ·simp[gE]
  exact .pure .str
 ·exact .str
def ks(h:Int)(id root:List UInt8):Int:=if h<0∨8<h∨id.length≠16∨root.length≠16 then 18 else 0
theorem O3(h:Int)(id root:List UInt8)(hi:id.length≤140737488355328)(hr:root.length≤140737488355328):
  ao prog 95 [.agg [.int .i64 h,.str id,.str root]] (.int .i64 (ks h id root)):=by
 refine ah func95 rfl call95 ?_ ?_
 rotate_left 1
 refine af (s':=(.agg [.int .i64 h,.str id,.str root]:V)::zJ 22) rfl ?_;dsimp only[zJ]
 by_cases h1:h<0<;>by_cases h2:8<h<;>by_cases h3:(id.length:Int)=16<;>by_cases h4:(root.length:Int)=16<;>(try(exfalso;omega))<;>(
 repeat' (first|refine Z3 (Zj h1 (Zj h2 (Zj h3 h4))) ?_|refine Zt ?_|(refine Yb rfl ?_ ?_<;>intro ab<;>(try simp at ab)<;>try exact dc)|refine Z6 (Zj h1 (Zj h2 (Zj h3 h4))) ?_|fail)
 first
 |(rw[show ks h id root=18 by unfold ks;rw[if_pos (by omega)]];simp;exact .pure .int)
 |(rw[show ks h id root=0 by unfold ks;rw[if_neg (by omega)]];simp;exact .pure .int))
 ·exact .int
theorem Fz(h:Int)(id root:List UInt8)(hi:id.length≤140737488355328)(hr:root.length≤140737488355328):
  ao prog 55 [.agg [.int .i64 h,.str id,.str root]] (.int .i64 (ks h id root)):=by
 refine ah func55 rfl call55 ?_ ?_
 rotate_left 1
 refine af (s':=(.agg [.int .i64 h,.str id,.str root]:V)::zJ 22) rfl ?_;dsimp only[zJ]
 by_cases h1:h<0<;>by_cases h2:8<h<;>by_cases h3:(id.length:Int)=16<;>by_cases h4:(root.length:Int)=16<;>(try(exfalso;omega))<;>(
 repeat' (first|refine Z3 (Zj h1 (Zj h2 (Zj h3 h4))) ?_|refine Zt ?_|(refine Yb rfl ?_ ?_<;>intro ab<;>(try simp at ab)<;>try exact dc)|refine Z6 (Zj h1 (Zj h2 (Zj h3 h4))) ?_|fail)
 first
 |(rw[show ks h id root=18 by unfold ks;rw[if_pos (by omega)]];simp;exact .pure .int)
 |(rw[show ks h id root=0 by unfold ks;rw[if_neg (by omega)]];simp;exact .pure .int))
 ·exact .int
def ey(s:List UInt8):Int:=(s.getD 0 0).toNat*16777216+(s.getD 1 0).toNat*65536+(s.getD 2 0).toNat*256+(s.getD 3 0).toNat
def ly(s:List UInt8):V:=if s.length<4 then .aB [.int .i64 0,.bool false]else .aB [.int .i64 (ey s),.bool true]
theorem zH(s:List UInt8):0≤ey s∧ey s<4294967296:=by
 have h0:(s.getD 0 0).toNat<256:=aqk _
 have h1:(s.getD 1 0).toNat<256:=aqk _
 have h2:(s.getD 2 0).toNat<256:=aqk _
 have h3:(s.getD 3 0).toNat<256:=aqk _
 unfold ey;omega
end Go.Proofs.YtjlnoogcggdhkaaGreatDoor
namespace Go.Proofs.YtjlnoogcggdhkaaGreatDoor
open Go.Proofs.Tryz
open Go.VS
set_option linter.all false
attribute [local irreducible] bj au aS bz gl eO
def EO(id ai:List UInt8)(i:Int):List UInt8:=kB id i (lJ id ai i 35)
@[simp] theorem Lb(id ai:List UInt8)(i:Int):(EO id ai i).length=16:=by rw[EO,kB,iB]
def yz(id ai:List UInt8)(k:Nat):List (List UInt8):=(List.range k).map fun(i:Nat)=>EO id ai (i:Int)
def nx(id:List UInt8)(l:Nat)(L:List (List UInt8))(k:Nat):List (List UInt8):=(List.range k).map fun(i:Nat)=>ln id (l:Int) (i:Int) (L.getD (2*i) []) (L.getD (2*i+1) [])
@[simp] theorem acP(id ai:List UInt8)(k:Nat):(yz id ai k).length=k:=by simp[yz]
@[simp] theorem SI(id:List UInt8)(l:Nat)(L:List (List UInt8))(k:Nat):(nx id l L k).length=k:=by simp[nx]
theorem Uf(id ai:List UInt8)(k:Nat):yz id ai (k+1)=yz id ai k++[EO id ai (k:Int)]:=by simp[yz,aqV]
theorem WX(id:List UInt8)(l:Nat)(L:List (List UInt8))(k:Nat):nx id l L (k+1)=nx id l L k++[ln id (l:Int) (k:Int) (L.getD (2*k) []) (L.getD (2*k+1) [])]:=by simp[nx,aqV]
theorem aa8(id ai:List UInt8)(k:Nat): ∀x∈yz id ai k,x.length=16:=by
 intro x hx;obtain⟨i,-,rfl⟩:=aqd.1 hx;exact Lb _ _ _
theorem acQ(id:List UInt8)(l:Nat)(L:List (List UInt8))(k:Nat): ∀x∈nx id l L k,x.length=16:=by
 intro x hx;obtain⟨i,-,rfl⟩:=aqd.1 hx;exact B9 _ _ _ _ _
def lvl(id ai:List UInt8)(h:Nat):Nat→List (List UInt8)
 |0=>yz id ai (2^h)
 |l+1=>nx id l (lvl id ai h l) ((lvl id ai h l).length/2)
theorem mF(id ai:List UInt8)(h:Nat): ∀l,l≤h→(lvl id ai h l).length=2^(h-l)
 |0,_=>by simp[lvl]
 |l+1,hl=>by
  rw[lvl,SI,mF id ai h l (by omega),show h-l=(h-(l+1))+1 by omega,ar4]
  omega
theorem J8(id ai:List UInt8)(h:Nat): ∀l,∀x∈lvl id ai h l,x.length=16
 |0=>aa8 _ _ _
 |l+1=>acQ _ _ _ _
def node(id ai:List UInt8)(h l i:Nat):List UInt8:=(lvl id ai h l).getD i []
theorem Ca(id ai:List UInt8)(h l i:Nat)(hl:l≤h)(hi:i<2^(h-l)):(node id ai h l i).length=16:=by
 have:=mF id ai h l hl
 rw[node,ap2,ap5 (by omega)]
 exact J8 id ai h l _ (apY _)
def jB(id ai:List UInt8)(h:Nat):List UInt8:=node id ai h h 0
@[simp] theorem Lc(id ai:List UInt8)(h:Nat):(jB id ai h).length=16:=Ca id ai h h 0 (aqf _) (by simp)
def xr(i:Nat):Nat:=if i%2=0 then i+1 else i-1
theorem W0: ∀i:Nat,i<256→bits .xor .i64 (i:Int) 1=(xr i:Int):=by decide+kernel
def zM(id ai:List UInt8)(h leaf k:Nat):List UInt8:=((List.range k).map fun l=>node id ai h l (xr (leaf/2^l))).flatten
theorem GV(id ai:List UInt8)(h leaf k:Nat):zM id ai h leaf (k+1)=zM id ai h leaf k++node id ai h k (xr (leaf/2^k)):=by simp[zM,aqV]
theorem VH{h l leaf:Nat}(hl:l<h)(hf:leaf<2^h):xr (leaf/2^l)<2^(h-l):=by
 have e:2^h=2^l*2^(h-l):=by rw[←Nat.pow_add];congr 1;omega
 have h1:leaf/2^l<2^(h-l):=by rw[Nat.div_lt_iff_lt_mul (Nat.two_pow_pos l),aru,←e];exact hf
 have e2:2^(h-l)=2*2^(h-l-1):=by rw[show h-l=(h-l-1)+1 by omega,ar4];simp;omega
 rw[e2]at h1⊢
 generalize leaf/2^l=q at*
 generalize 2^(h-l-1)=t at*
 unfold xr;split<;>omega
theorem vr(id ai:List UInt8)(h leaf:Nat)(hf:leaf<2^h): ∀k,k≤h→(zM id ai h leaf k).length=16*k
 |0,_=>rfl
 |k+1,hk=>by
  rw[GV,aqa,vr id ai h leaf hf k (by omega),Ca id ai h k _ (by omega) (VH (by omega) hf)];omega
def tH(rest:List UInt8)(l:Nat):List UInt8:=(rest.drop (16*l)).take 16
def gK(id rest:List UInt8)(leaf:Nat)(v:List UInt8):Nat→List UInt8
 |0=>v
 |l+1=>if leaf/2^l%2=0 then ln id (l:Int) ((leaf/2^l/2:Nat):Int) (gK id rest leaf v l) (tH rest l)else ln id (l:Int) ((leaf/2^l/2:Nat):Int) (tH rest l) (gK id rest leaf v l)
theorem zI(id rest:List UInt8)(leaf:Nat)(v:List UInt8)(hv:v.length=16): ∀l,(gK id rest leaf v l).length=16
 |0=>hv
 |l+1=>by rw[gK];split<;>rw[B9]
def FB(ai:List UInt8)(h leaf:Nat)(m:List UInt8):List UInt8:=
 cg (leaf:Int)++vF (ck ai) ai (leaf:Int) (gE (ck ai) (jB (ck ai) ai h) (leaf:Int) m) 35++zM (ck ai) ai h leaf h
def lj(h:Int)(id root m s:List UInt8):Int:=
 if ks h id root≠0 then 18 else if s.length≠564+16*h.toNat∨((2^h.toNat:Nat):Int)≤ey s then 17 else
  if gK id (s.drop 564) (ey s).toNat (kB id (ey s) (iR id (ey s) (gE id root (ey s) m) ((s.drop 4).take 560) 35)) h.toNat=root then 0 else 17
theorem GU{h:Int}{id root:List UInt8}(e:ks h id root=0):0≤h∧h≤8∧id.length=16∧root.length=16:=by
 unfold ks at e
 split at e
 ·omega
 ·omega
theorem pk{h:Nat}(hh:h≤8):2^h≤256:=aqD (Nat.pow_le_pow_right (by omega) hh) (by omega)
end Go.Proofs.YtjlnoogcggdhkaaGreatDoor
namespace Go.Proofs.YtjlnoogcggdhkaaGreatDoor
open Go.Proofs.Tryz
open Go.VS
set_option linter.all false
attribute [local irreducible] bj au aS bz gl eO
def pq(L:List (List UInt8)):V:=.sl L.length (L.map V.str)
@[simp] theorem PK(L:List (List UInt8)):(pq L).Pure:=.sl
@[simp] theorem aet(L:List (List UInt8)):(pq L).one=true:=rfl
def kT(ai:List UInt8)(h k:Nat):List V:=(List.range k).map fun l=>pq (lvl (ck ai) ai h l)
@[simp] theorem L7(ai:List UInt8)(h k:Nat):(kT ai h k).length=k:=by simp[kT]
theorem RI(ai:List UInt8)(h k:Nat):kT ai h (k+1)=kT ai h k++[pq (lvl (ck ai) ai h k)]:=by simp[kT,aqV]
@[simp] theorem Eg(ai:List UInt8)(h k:Nat):bf (kT ai h k):=by
 intro x hx;obtain⟨l,-,rfl⟩:=aqd.1 hx;exact PK _
theorem Ug(ai:List UInt8)(h k l:Nat)(hl:l<k):(kT ai h k)[l]?=some (pq (lvl (ck ai) ai h l)):=by
 simp[kT,hl]
theorem WY(id ai:List UInt8)(h:Nat):lvl id ai h h=[jB id ai h]:=by
 have hl:=mF id ai h h (aqf _)
 rw[Nat.sub_self,Nat.pow_zero]at hl
 match hL:lvl id ai h h,hl with
 |[x],_=>simp[jB,node,hL]
theorem Fy(h:Nat)(hh:h≤8):IntKind.i64.wrap (2^h)=((2^h:Nat):Int):=by
 have: ∀k,k≤8→IntKind.i64.wrap ((2:Int)^k)=((2^k:Nat):Int):=by decide+kernel
 exact this h hh
end Go.Proofs.YtjlnoogcggdhkaaGreatDoor
namespace Go.Proofs.YtjlnoogcggdhkaaGreatDoor
open Go.Proofs.Tryz
open Go.VS
set_option linter.all false
attribute [local irreducible] bj au aS bz gl eO
theorem RH(id ai:List UInt8)(i:Nat)(hi:id.length=16)(hs:ai.length=32)(hl:i<256):E1 id ai i=.aB [.str (EO id ai i),.int .i64 0]:=by
 rw[E1,if_pos]
 ·rfl
 ·unfold jy ew;rw[if_neg (by omega),if_neg (by omega),if_neg (by omega)]
theorem CO{L:List (List UInt8)}{i:Nat}(h:i<L.length):L.getD i []=L[i]:=by simp[ap2,h]
end Go.Proofs.YtjlnoogcggdhkaaGreatDoor
namespace Go.Proofs.YtjlnoogcggdhkaaGreatDoor
open Go.Proofs.Tryz
open Go.VS
set_option linter.all false
attribute [local irreducible] bj au aS bz gl eO
theorem WZ(id ai:List UInt8)(leaf:Nat)(d:List UInt8)(hi:id.length=16)(hs:ai.length=32)(hl:leaf<256)(hd:d.length=16):Co id ai leaf d=.aB [.str (vF id ai leaf d 35),.int .i64 0]:=by
 rw[Co,if_pos,if_pos hd]
 unfold jy ew;rw[if_neg (by omega),if_neg (by omega),if_neg (by omega)]
end Go.Proofs.YtjlnoogcggdhkaaGreatDoor
