/-
 CONTRACTS: Sum and Short.
 Conditions: none.
-/
import Derived.Test.YtjlnoogcggdhkaaGreatDoorGe
set_option maxRecDepth 100000
namespace Go.Proofs.YtjlnoogcggdhkaaGreatDoor
open Go.Proofs.Tryz
open Go.VS
set_option linter.all false
attribute [local irreducible] bj au aS bz
theorem yQ(l:List (List UInt8))(i:Nat)(h:i<l.length):(l.take (i+1)).flatten=(l.take i).flatten++l[i]:=by
 rw[aqA h,List.flatten_append];simp
theorem ML(l:List (List UInt8))(i:Nat)(h:i<l.length):(l.take i).flatten.length+(l[i]).length≤l.flatten.length:=by
 have h1:l.flatten.length=(l.take (i+1)).flatten.length+(l.drop (i+1)).flatten.length:=by
  rw[←aqa,←List.flatten_append,aqE]
 rw[h1,yQ l i h,aqa];omega
@[simp] theorem abn(h:List Int):(Iw h).length=4*h.length:=by rw[←Ix h h.length (aqf _),oo _ _ (aqf _)]
@[simp] theorem LG(l:List UInt8):(gl l).length=32:=by simp[gl]
theorem We(l:List UInt8):kA l≠ []:=by simp[kA,Iy]
theorem Qj(l:List (List UInt8))(hl:l.length≤1099511627776)(ht:l.flatten.length≤1099511627776):ao prog 195 [.sl l.length (l.map V.str)] (.str (gl l.flatten)):=by
 refine ah func195 rfl call195 ?_ ?_
 rotate_left 1
 refine af (s':=(.sl l.length (l.map V.str):V)::zJ 18) rfl ?_;dsimp only[zJ]
 repeat' (first|(refine Zu ?_;intro K9 h9;refine Zd ?_;((first|refine og N4 (by simp) (by simp) ?_|skip)<;>(refine Zf h9 ?_;clear h9 K9)))|refine Zt ?_|(refine Yb rfl ?_ ?_<;>intro ab<;>(try simp at ab)<;>try exact dc))
 ·refine aV (fun i=>(some V.aa::none::some V.aa::zN 2 (zS 2 (zN 2 (some (V.int .i64 i)::zS 9 []))))) (fun i=> [.live (kA (l.take i).flatten)]) l.length ?_ fun i hi KL hL=>?_
  ·dsimp only[aE,zN,zS]
   exact Yr [some 0] (by simp[ae])
  dsimp only[aE,zN,zS]
  rcases apQ i l.length with hi|hi
  ·have hle:=ML l i hi
   repeat' (first|(refine Zu ?_;intro K9 h9;refine Zd ?_;((first|refine Qd 0 (N5 (l.take i).flatten l[i] (by omega)) rfl (by simp) (by simp) (.aB (by simp)) (by simp) ?_|skip)<;>(refine Zf h9 ?_;clear h9 K9)))|refine Zt ?_|(refine Yb rfl ?_ ?_<;>intro ab<;>(try simp at ab)<;>try exact dc))
   refine hL _ _ hi ?_
   exact Yr [some 0] (by simp[ae,yQ l i hi])
  obtain rfl:i=l.length:=by omega
  rw[ari]
  repeat' (first|(refine Zu ?_;intro K9 h9;refine Zd ?_;((first|refine aI (Tn l.flatten ht _ (.inl rfl)) ⟨aA rfl (We _) (N6 _),trivial⟩ .str ?_|skip)<;>(refine Zf h9 ?_;clear h9 K9)))|refine Zt ?_|(refine Yb rfl ?_ ?_<;>intro ab<;>(try simp at ab)<;>try exact dc))
  simp
  exact .pure .str
 ·exact .str
def eO(l:List UInt8):List UInt8:=(gl l).take 16
theorem qp(l:List (List UInt8))(hl:l.length≤1099511627776)(ht:l.flatten.length≤1099511627776):ao prog 148 [.sl l.length (l.map V.str)] (.str (eO l.flatten)):=by
 refine ah func148 rfl call148 ?_ ?_
 rotate_left 1
 refine af (s':=(.sl l.length (l.map V.str):V)::zJ 5) rfl ?_;dsimp only[zJ]
 repeat' (first|(refine Zu ?_;intro K9 h9;refine Zd ?_;((first|refine Ap (Qj l hl ht) ?_|skip)<;>(refine Zf h9 ?_;clear h9 K9)))|refine Zt ?_|fail)
 ·simp
  exact .pure .str
 ·exact .str
end Go.Proofs.YtjlnoogcggdhkaaGreatDoor
namespace Go.Proofs.YtjlnoogcggdhkaaGreatDoor
open Go.Proofs.Tryz
open Go.VS
set_option linter.all false
attribute [local irreducible] bj au aS bz
def Gc(n:Nat):Nat→List UInt8
 |0=>List.replicate 8 0
 |i+1=>(Gc n i).set (7-i) (Dh n (7-i))
def lq(n i:Nat):List UInt8:=128::List.replicate (fN n) 0++Gc n i
@[simp] theorem abU(n i:Nat):(Gc n i).length=8:=by
 induction i with
 |zero=>simp[Gc]
 |succ i ih=>simp[Gc,ih]
@[simp] theorem YE(n i:Nat):(lq n i).length=9+fN n:=by simp[lq];omega
theorem N7(n i:Nat)(h:i<8):lq n (i+1)=(lq n i).set (8+fN n-i) (Dh n (7-i)):=by
 rw[lq,lq,arl _ _ (by simp;omega),Gc]
 congr 2
 simp;omega
theorem Wg(n:Nat):Gc n 8=(List.range 8).map (Dh n):=rfl
theorem Qk(n:Nat):lq n 8=qY n:=by rw[lq,Wg,qY]
theorem To(n i:Nat)(hi:i<8):V.int .u8 (IntKind.u8.wrap (8*(n:Int)/2^(8*(i:Int)).toNat))=aF (Dh n (7-i)):=by
 rw[←MM n (7-i) (by omega),Int.mul_comm 8 (n:Int),show(8*(i:Int)).toNat=(8*(7-((7-i:Nat):Int))).toNat by omega]
def rr(v:List Int)(i:Nat):List V:=if i=0 then List.replicate 32 (.int .u8 0)else(ob v i).map aF
theorem Wh(v:List Int)(i:Nat)(h:i≤v.length):List.take (4*i) (rr v i)=(ob v i).map aF:=by
 unfold rr
 split
 ·rename_i e;subst e;simp[ob]
 ·rw[cS (by rw[oo v i h];omega)]
theorem MN(v:List Int)(i:Nat):rr v (i+1)=(ob v (i+1)).map aF:=by simp[rr]
theorem Ql(v:List Int)(i:Nat)(h:i≤v.length):4*i≤(rr v i).length:=by
 unfold rr
 split
 ·rename_i e;subst e;simp
 ·simp[oo v i h]
def mP(l:List (List UInt8))(i:Nat):List UInt8:=(l.take i).flatten
theorem yR(l:List (List UInt8))(i:Nat)(h:i<l.length):mP l (i+1)=mP l i++l[i]:=yQ l i h
set_option maxHeartbeats 4000000 in
theorem Gd(l:List (List UInt8))(hl:l.length≤1099511627776)(ht:l.flatten.length≤1099511627776):ao prog 105 [.sl l.length (l.map V.str)] (.str (gl l.flatten)):=by
 refine ah func105 rfl call105 ?_ ?_
 rotate_left 1
 refine af (s':=(.sl l.length (l.map V.str):V)::zJ 96) rfl ?_;dsimp only[zJ]
 repeat' (first|refine Zq ?_|refine Zt ?_|refine Y8 fun K hK=>?_|(apply hK;clear hK K)|(refine Yb rfl ?_ ?_<;>intro ab<;>(try simp at ab)<;>try exact dc)|refine Zx ?_|clear hK K)
 ·refine aV (fun i=>(some V.aa::none::some V.aa::some (V.str (mP l i))::none::zS 8 (none::some V.aa::zN 2 (some (V.int .i64 i)::zS 79 [])))) (fun i=> []) l.length ?_ fun i hi KL hL=>?_
  ·dsimp only[aE,zN,zS]
   exact Le.drop (by simp[mP])
  dsimp only[aE,zN,zS]
  rcases apQ i l.length with hi|hi
  ·have hle:(mP l i).length+(l[i]).length≤l.flatten.length:=ML l i hi
   repeat' (first|refine Zq ?_|refine Zt ?_|refine Y8 fun K hK=>?_|(apply hK;clear hK K)|(refine Yb rfl ?_ ?_<;>intro ab<;>(try simp at ab)<;>try exact dc)|refine Zx ?_|clear hK K)
   refine hL _ _ hi ?_
   exact Le.drop (by dsimp only[aE,zN,zS];simp[yR l i hi])
  obtain rfl:i=l.length:=by omega
  rw[mP,ari]
  generalize l.flatten=L at*
  iterate 29 (first|refine Zq ?_|refine Zt ?_|refine Y8 fun K hK=>?_|(apply hK;clear hK K)|(refine Yb rfl ?_ ?_<;>intro ab<;>(try simp at ab)<;>try exact dc)|refine Zx ?_|(clear hK K;first|(apply hK;clear hK K)|(clear hK K;first|(apply hK;clear hK K)|(clear hK K;first|(apply hK;clear hK K)|(clear hK K;apply hK;clear hK K)))))
  have hz:fN L.length<64:=arc _ (by omega)
  refine nU fun K hK hL=>?_
  have main:K ((V.aa::V.aa::V.aa::(V.str L)::V.aa::V.aa::(V.av 0 0 8 1)::(V.int .i64 L.length)::(V.int .i64 (fN L.length))::V.aa::V.aa::V.aa::V.aa::V.aa::V.aa::V.aa::V.aa::V.aa::V.aa::V.aa::V.aa::V.aa::V.aa::V.aa::V.aa::V.aa::V.aa::V.aa::V.aa::V.aa::V.aa::V.aa::V.aa::V.aa::V.aa::V.aa::V.aa::V.aa::V.aa::V.aa::V.aa::V.aa::V.aa::V.aa::V.aa::V.aa::V.aa::V.aa::V.aa::V.aa::V.aa::V.aa::V.aa::V.aa::V.aa::V.aa::V.aa::V.aa::V.aa::V.aa::V.aa::V.aa::V.aa::V.aa::V.aa::V.aa::V.aa::V.aa::V.aa::V.aa::V.aa::V.aa::V.aa::V.aa::V.aa::V.aa::V.aa::V.aa::V.aa::V.aa::V.aa::V.aa::V.aa::V.aa::V.aa::V.aa::V.aa::V.aa::V.aa::V.aa::V.aa::V.aa::V.aa::V.aa::V.aa::V.aa::V.aa::[])) [.live (bk uj)]:=by
   refine hK _ _ ?_
   clear hK hL K
   repeat' (first|refine Zq ?_|refine Zt ?_|refine Y8 fun K hK=>?_|(apply hK;clear hK K)|(refine Yb rfl ?_ ?_<;>intro ab<;>(try simp at ab)<;>try exact dc)|refine Zx ?_|clear hK K)
   have hn:(9+(fN L.length:Int)).toNat=9+fN L.length:=by omega
   rw[hn]
   have vR:(List.replicate (9+fN L.length) (V.int .u8 0)).set 0 (V.int .u8 128)=(lq L.length 0).map aF:=by
    have:lq L.length 0=(List.replicate (9+fN L.length) 0).set 0 128:=by
     rw[lq,Gc,show 9+fN L.length=fN L.length+8+1 by omega,show List.replicate (fN L.length+8+1) (0:UInt8)=0::List.replicate (fN L.length+8) 0 from rfl,List.set_cons_zero,←List.replicate_append_replicate];rfl
    rw[this,arB,List.map_replicate];rfl
   rw[vR]
   refine aV (fun i=>(some V.aa::none::some V.aa::zN 2 (some V.aa::zN 2 (some V.aa::none::some (V.int .i64 i)::zS 2 (none::zS 83 []))))) (fun i=> [.live (bk uj),.live ((lq L.length i).map aF)]) 8 ?_ fun i hi KL hL=>?_
   ·dsimp only[aE,zN,zS]
    exact Yr [some 0,some 1] (by simp[ae])
   dsimp only[aE,zN,zS]
   rcases apQ i 8 with hi|hi
   ·have hs:(lq L.length (i+1)).map aF=((lq L.length i).map aF).set (8+fN L.length-i) (V.int .u8 (IntKind.u8.wrap (8*(L.length:Int)/2^(8*(i:Int)).toNat))):=by
     rw[To _ i hi,N7 _ i hi,arB]
    repeat' (first|refine Z0 hn ?_|refine Zt ?_|refine Y8 fun K hK=>?_|(apply hK;clear hK K)|(refine Yb rfl ?_ ?_<;>intro ab<;>(try simp at ab)<;>try exact dc)|refine Zx ?_|clear hK K)
    refine hL _ _ hi ?_
    rw[←hs]
    exact Yr [some 0,some 1] (by simp[ae])
   obtain rfl:i=8:=by omega
   have eR:=Bx L.length
   repeat' (first|refine Z0 (Zj @Qk (Zj @apR.{0} eR)) ?_|refine Zt ?_|refine Y8 fun K hK=>?_|(apply hK;clear hK K)|(refine Yb rfl ?_ ?_<;>intro ab<;>(try simp at ab)<;>try exact dc)|refine Zx ?_|clear hK K)
   refine iz 0 rfl (w8 _) (by simp[fz,apR];rfl) (by simp[im,fz];rfl) ?_
   obtain⟨B,hB⟩: ∃B,B=L++qY L.length:=⟨_,rfl⟩
   have hBl:B.length=L.length+(qY L.length).length:=by simp[hB]
   have hBd:B.length%64=0:=by rw[hBl];exact Wi L.length
   rw[←hB]
   refine aV (fun k=>(some V.aa::none::some V.aa::zN 2 (some V.aa::some (V.sl 8 (bk (comp uj B k)))::zS 4 (some (V.int .i64 (64*k))::some V.aa::none::zS 83 [])))) (fun k=> []) (B.length/64) ?_ fun k hk KL hL=>?_
   ·dsimp only[aE,zN,zS]
    exact Le.drop (by simp[comp])
   dsimp only[aE,zN,zS]
   rcases apQ k (B.length/64)with hk|hk
   ·have e0:(64*(k:Int)).toNat=64*k:=by omega
    have e1:(64*(k:Int)+64).toNat=64*k+64:=by omega
    repeat' (first|(refine Zu ?_;intro K9 h9;simp(disch:=first|exact dd|fail) [e0,e1];refine Zm ?_;((first|refine Ap (LH (comp uj B k) ((B.drop (64*k)).take 64) (by simp) (by simp;omega)) ?_|skip)<;>(refine Zf h9 ?_;clear h9 K9)))|refine Zt ?_|refine Y8 fun K hK=>?_|(apply hK;clear hK K)|(refine Yb rfl ?_ ?_<;>intro ab<;>(try simp at ab)<;>try exact dc)|refine Zx ?_|clear hK K)
    refine hL _ _ hk ?_
    exact Le.drop (by dsimp only[aE,zN,zS];simp[comp];omega)
   obtain rfl:k=B.length/64:=by omega
   obtain⟨v,hv⟩: ∃v,v=comp uj B (B.length/64):=⟨_,rfl⟩
   have vV:v.length=8:=by simp[hv]
   have hvo:gl L=Iw v:=by rw[gl,jx,hv,hB]
   rw[←hv]
   repeat' (first|refine Z0 vV ?_|refine Zt ?_|refine Y8 fun K hK=>?_|(apply hK;clear hK K)|(refine Yb rfl ?_ ?_<;>intro ab<;>(try simp at ab)<;>try exact dc)|refine Zx ?_|clear hK K)
   refine aV (fun i=>(some V.aa::none::zS 2 (none::zS 7 (some (V.av 0 0 (4*i) 1)::none::zS 60 (zN 2 (some (V.int .i64 i)::zS 20 [])))))) (fun i=> [.live (rr v i)]) 8 ?_ fun i hi KL hL=>?_
   ·dsimp only[aE,zN,zS]
    exact Yr [some 0] (by simp[ae,rr])
   dsimp only[aE,zN,zS]
   have pK:=Wh v i (by omega)
   have ie:=Ql v i (by omega)
   rcases apQ i 8 with hi|hi
   ·repeat' (first|refine Z0 (Zj vV pK) ?_|refine Zt ?_|refine Y8 fun K hK=>?_|(apply hK;clear hK K)|(refine Yb rfl ?_ ?_<;>intro ab<;>(try simp at ab)<;>try exact dc)|refine Zx ?_|clear hK K)
    refine hL _ _ hi ?_
    exact Yr [some 2] (by simp[ae,MN,EZ v i (by omega),cg,Qm])
   obtain rfl:i=8:=by omega
   repeat' (first|refine Z0 pK ?_|refine Zt ?_|refine Y8 fun K hK=>?_|(apply hK;clear hK K)|(refine Yb rfl ?_ ?_<;>intro ab<;>(try simp at ab)<;>try exact dc)|refine Zx ?_|clear hK K)
   rw[MN v 7,Ix v 8 (by omega)]
   simp[apR,hvo,vV]
   exact .pure .str
  repeat' (first|refine Zq ?_|refine Zt ?_|refine Y8 fun K hK=>?_|(apply hK;clear hK K)|(refine Yb rfl ?_ ?_<;>intro ab<;>(try simp at ab)<;>try exact dc)|refine Zx ?_|clear hK K)
  ·have e:(fN L.length:Int)=0:=by unfold fN;omega
   exact hL _ _ _ _ (Le.mk [some 0] (by simp[e]) (aZ (by simp) (by simp[ae,bk,uj])) (by simp)) main
  ·have e:(fN L.length:Int)=64-(L.length+9)%64:=by unfold fN;omega
   exact hL _ _ _ _ (Le.mk [some 0] (by simp[e]) (aZ (by simp) (by simp[ae,bk,uj])) (by simp)) main
 ·exact .str
theorem fS(l:List (List UInt8))(hl:l.length≤1099511627776)(ht:l.flatten.length≤1099511627776):ao prog 58 [.sl l.length (l.map V.str)] (.str (eO l.flatten)):=by
 refine ah func58 rfl call58 ?_ ?_
 rotate_left 1
 refine af (s':=(.sl l.length (l.map V.str):V)::zJ 5) rfl ?_;dsimp only[zJ]
 repeat' (first|(refine Zu ?_;intro K9 h9;refine Zd ?_;((first|refine Ap (Gd l hl ht) ?_|skip)<;>(refine Zf h9 ?_;clear h9 K9)))|refine Zt ?_|fail)
 ·simp
  exact .pure .str
 ·exact .str
end Go.Proofs.YtjlnoogcggdhkaaGreatDoor
namespace Go.Proofs.YtjlnoogcggdhkaaGreatDoor
open Go.Proofs.Tryz
open Go.VS
set_option linter.all false
attribute [local irreducible] bj au aS bz
@[simp] theorem iB(l:List UInt8):(eO l).length=16:=by simp[eO]
end Go.Proofs.YtjlnoogcggdhkaaGreatDoor
namespace Go.Proofs.YtjlnoogcggdhkaaGreatDoor
open Go.Proofs.Tryz
open Go.VS
set_option linter.all false
attribute [local irreducible] bj au aS bz gl eO
theorem lH(l:List Int)(i:Nat)(h:i<(ints l).length):(ints l)[i]=.int .i64 (l[i]'(by simpa using h)):=by simp[ints]
end Go.Proofs.YtjlnoogcggdhkaaGreatDoor
namespace Go.Proofs.YtjlnoogcggdhkaaGreatDoor
open Go.Proofs.Tryz
open Go.VS
set_option linter.all false
attribute [local irreducible] bj au aS bz gl eO
def lI(n:Int):List UInt8:=[UInt8.ofNat (n%256).toNat]
@[simp] theorem Hx(n:Int):(cg n).length=4:=rfl
@[simp] theorem abV(n:Int):(lI n).length=1:=rfl
theorem sh(n:Int):UInt8.ofNat (IntKind.u8.wrap n).toNat=UInt8.ofNat (n%256).toNat:=by rw[wrap_u8']
theorem MO(n:Int):ao prog 192 [.int .i64 n] (.str (cg n)):=by
 refine ah func192 rfl call192 ?_ ?_
 rotate_left 1
 refine af (s':=(.int .i64 n:V)::zJ 15) rfl ?_;dsimp only[zJ]
 repeat' (first|refine Zq ?_|refine Zt ?_|fail)
 ·simp[sh,cg]
  exact .pure .str
 ·exact .str
theorem jJ(n:Int):ao prog 59 [.int .i64 n] (.str (cg n)):=by
 refine ah func59 rfl call59 ?_ ?_
 rotate_left 1
 refine af (s':=(.int .i64 n:V)::zJ 15) rfl ?_;dsimp only[zJ]
 repeat' (first|refine Zq ?_|refine Zt ?_|fail)
 ·simp[sh,cg]
  exact .pure .str
 ·exact .str
theorem Wj(n:Int):ao prog 193 [.int .i64 n] (.str (lI n)):=by
 refine ah func193 rfl call193 ?_ ?_
 rotate_left 1
 refine af (s':=(.int .i64 n:V)::zJ 6) rfl ?_;dsimp only[zJ]
 repeat' (first|refine Zq ?_|refine Zt ?_|fail)
 ·simp[sh,lI]
  exact .pure .str
 ·exact .str
theorem sQ(n:Int):ao prog 60 [.int .i64 n] (.str (lI n)):=by
 refine ah func60 rfl call60 ?_ ?_
 rotate_left 1
 refine af (s':=(.int .i64 n:V)::zJ 6) rfl ?_;dsimp only[zJ]
 repeat' (first|refine Zq ?_|refine Zt ?_|fail)
 ·simp[sh,lI]
  exact .pure .str
 ·exact .str
def oX(ai:List UInt8)(leaf c:Int):List UInt8:=eO ([83]++ai++cg leaf++lI c)
@[simp] theorem k6(ai:List UInt8)(leaf c:Int):(oX ai leaf c).length=16:=by rw[oX,iB]
theorem yS(ai:List UInt8)(leaf c:Int)(hs:ai.length≤1000):ao prog 131 [.str ai,.int .i64 leaf,.int .i64 c] (.str (oX ai leaf c)):=by
 refine ah func131 rfl call131 ?_ ?_
 rotate_left 1
 refine af (s':=(.str ai:V)::(.int .i64 leaf:V)::(.int .i64 c:V)::zJ 11) rfl ?_;dsimp only[zJ]
 repeat' (first|(refine Zu ?_;intro K9 h9;refine Zd ?_;((first|refine Ap (jJ _) ?_|refine Ap (sQ _) ?_|refine aI (fS [[83],ai,cg leaf,lI c] (by simp) (by simp;omega)) ⟨bK rfl (by simp) (by simp),trivial⟩ .str ?_|skip)<;>(refine Zf h9 ?_;clear h9 K9)))|refine Zt ?_|fail)
 ·simp[oX]
  exact .pure .str
 ·exact .str
def nN(id:List UInt8)(leaf c:Int)(f:Nat)(v:List UInt8):Nat→List UInt8
 |0=>v
 |k+1=>eO ([67]++id++cg leaf++lI c++lI (f+k:Nat)++nN id leaf c f v k)
def lr(id:List UInt8)(leaf c:Int)(f t:Nat)(v:List UInt8):List UInt8:=nN id leaf c f v (t-f)
theorem sR(id:List UInt8)(leaf c:Int)(f:Nat)(v:List UInt8)(hv:v.length=16): ∀k,(nN id leaf c f v k).length=16
 |0=>hv
 |k+1=>by rw[nN,iB]
theorem j5(id:List UInt8)(leaf c:Int)(f t:Nat)(v:List UInt8)(hv:v.length=16):(lr id leaf c f t v).length=16:=sR id leaf c f v hv _
theorem Tp(id:List UInt8)(leaf c:Int)(f t:Nat)(v:List UInt8)(hi:id.length≤1000)(hv:v.length=16)(hft:f≤t)(ht:t≤1000):
  ao prog 146 [.str id,.int .i64 leaf,.int .i64 c,.int .i64 f,.int .i64 t,.str v] (.str (lr id leaf c f t v)):=by
 refine ah func146 rfl call146 ?_ ?_
 rotate_left 1
 refine af (s':=(.str id:V)::(.int .i64 leaf:V)::(.int .i64 c:V)::(.int .i64 f:V)::(.int .i64 t:V)::(.str v:V)::zJ 25) rfl ?_;dsimp only[zJ]
 repeat' (first|refine Zq ?_|refine Zt ?_|(refine Yb rfl ?_ ?_<;>intro ab<;>(try simp at ab)<;>try exact dc))
 ·refine aV (fun k=>(zN 3 (some V.aa::none::some (V.str (nN id leaf c f v k))::zN 6 (some V.aa::some (V.int .i64 ((f+k:Nat):Int))::zS 17 [])))) (fun k=> []) (t-f) ?_ fun k hk KL hL=>?_
  ·dsimp only[aE,zN,zS]
   exact Le.drop (by simp[nN])
  dsimp only[aE,zN,zS]
  have vW:=sR id leaf c f v hv k
  rcases apQ k (t-f)with hk|hk
  ·repeat' (first|(refine Zu ?_;intro K9 h9;refine Zd ?_;((first|refine Ap (MO _) ?_|refine Ap (Wj _) ?_|refine aI (qp [[67],id,cg leaf,lI c,lI (f+k:Nat),nN id leaf c f v k] (by simp) (by simp;omega)) ⟨bK rfl (by simp) (by simp),trivial⟩ .str ?_|skip)<;>(refine Zf h9 ?_;clear h9 K9)))|refine Zt ?_|(refine Yb rfl ?_ ?_<;>intro ab<;>(try simp at ab)<;>try exact dc))
   refine hL _ _ hk ?_
   exact Le.drop (by dsimp only[aE,zN,zS];simp[nN];omega)
  obtain rfl:k=t-f:=by omega
  repeat' (first|refine Zq ?_|refine Zt ?_|(refine Yb rfl ?_ ?_<;>intro ab<;>(try simp at ab)<;>try exact dc))
  simp[lr]
  exact .pure .str
 ·exact .str
theorem w9(id:List UInt8)(leaf c:Int)(f t:Nat)(v:List UInt8)(hi:id.length≤1000)(hv:v.length=16)(hft:f≤t)(ht:t≤1000):
  ao prog 104 [.str id,.int .i64 leaf,.int .i64 c,.int .i64 f,.int .i64 t,.str v] (.str (lr id leaf c f t v)):=by
 refine ah func104 rfl call104 ?_ ?_
 rotate_left 1
 refine af (s':=(.str id:V)::(.int .i64 leaf:V)::(.int .i64 c:V)::(.int .i64 f:V)::(.int .i64 t:V)::(.str v:V)::zJ 25) rfl ?_;dsimp only[zJ]
 repeat' (first|refine Zq ?_|refine Zt ?_|(refine Yb rfl ?_ ?_<;>intro ab<;>(try simp at ab)<;>try exact dc))
 ·refine aV (fun k=>(zN 3 (some V.aa::none::some (V.str (nN id leaf c f v k))::zN 6 (some V.aa::some (V.int .i64 ((f+k:Nat):Int))::zS 17 [])))) (fun k=> []) (t-f) ?_ fun k hk KL hL=>?_
  ·dsimp only[aE,zN,zS]
   exact Le.drop (by simp[nN])
  dsimp only[aE,zN,zS]
  have vW:=sR id leaf c f v hv k
  rcases apQ k (t-f)with hk|hk
  ·repeat' (first|(refine Zu ?_;intro K9 h9;refine Zd ?_;((first|refine Ap (jJ _) ?_|refine Ap (sQ _) ?_|refine aI (fS [[67],id,cg leaf,lI c,lI (f+k:Nat),nN id leaf c f v k] (by simp) (by simp;omega)) ⟨bK rfl (by simp) (by simp),trivial⟩ .str ?_|skip)<;>(refine Zf h9 ?_;clear h9 K9)))|refine Zt ?_|(refine Yb rfl ?_ ?_<;>intro ab<;>(try simp at ab)<;>try exact dc))
   refine hL _ _ hk ?_
   exact Le.drop (by dsimp only[aE,zN,zS];simp[nN];omega)
  obtain rfl:k=t-f:=by omega
  repeat' (first|refine Zq ?_|refine Zt ?_|(refine Yb rfl ?_ ?_<;>intro ab<;>(try simp at ab)<;>try exact dc))
  simp[lr]
  exact .pure .str
 ·exact .str
def ew(id:List UInt8)(leaf:Int):Int:=if id.length≠16 then 18 else if leaf<0∨256≤leaf then 1 else 0
def jy(id ai:List UInt8)(leaf:Int):Int:=if id.length≠16∨ai.length≠32 then 18 else ew id leaf
theorem mj(id:List UInt8)(leaf:Int)(hi:id.length≤140737488355328):ao prog 144 [.str id,.int .i64 leaf] (.int .i64 (ew id leaf)):=by
 refine ah func144 rfl call144 ?_ ?_
 rotate_left 1
 refine af (s':=(.str id:V)::(.int .i64 leaf:V)::zJ 14) rfl ?_;dsimp only[zJ]
 by_cases h1:(id.length:Int)=16<;>by_cases h2:leaf<0<;>by_cases h3:256≤leaf<;>(try(exfalso;omega))<;>(
 repeat' (first|refine Z3 (Zj h1 (Zj h2 h3)) ?_|refine Zt ?_|(refine Yb rfl ?_ ?_<;>intro ab<;>(try simp at ab)<;>try exact dc)|refine Z6 (Zj h1 (Zj h2 h3)) ?_|fail)
 first
 |(rw[show ew id leaf=18 by unfold ew;rw[if_pos (by omega)]];simp;exact .pure .int)
 |(rw[show ew id leaf=1 by unfold ew;rw[if_neg (by omega),if_pos (by omega)]];simp;exact .pure .int)
 |(rw[show ew id leaf=0 by unfold ew;rw[if_neg (by omega),if_neg (by omega)]];simp;exact .pure .int))
 ·exact .int
theorem nm(id ai:List UInt8)(leaf:Int)(hi:id.length≤140737488355328)(hs:ai.length≤140737488355328):ao prog 130 [.str id,.str ai,.int .i64 leaf] (.int .i64 (jy id ai leaf)):=by
 refine ah func130 rfl call130 ?_ ?_
 rotate_left 1
 refine af (s':=(.str id:V)::(.str ai:V)::(.int .i64 leaf:V)::zJ 18) rfl ?_;dsimp only[zJ]
 by_cases h1:(id.length:Int)=16<;>by_cases h2:(ai.length:Int)=32<;>by_cases h3:leaf<0<;>by_cases h4:256≤leaf<;>(try(exfalso;omega))<;>(
 repeat' (first|refine Z3 (Zj h1 (Zj h2 (Zj h3 h4))) ?_|refine Zt ?_|(refine Yb rfl ?_ ?_<;>intro ab<;>(try simp at ab)<;>try exact dc)|refine Z6 (Zj h1 (Zj h2 (Zj h3 h4))) ?_|fail)
 first
 |(rw[show jy id ai leaf=18 by unfold jy;rw[if_pos (by omega)]];simp;exact .pure .int)
 |(rw[show jy id ai leaf=1 by unfold jy ew;rw[if_neg (by omega),if_neg (by omega),if_pos (by omega)]];simp;exact .pure .int)
 |(rw[show jy id ai leaf=0 by unfold jy ew;rw[if_neg (by omega),if_neg (by omega),if_neg (by omega)]];simp;exact .pure .int))
 ·exact .int
end Go.Proofs.YtjlnoogcggdhkaaGreatDoor
namespace Go.Proofs.YtjlnoogcggdhkaaGreatDoor
open Go.Proofs.Tryz
open Go.VS
set_option linter.all false
attribute [local irreducible] bj au aS bz gl eO
def jn(l:List (List UInt8))(i:Nat):List UInt8:=mP l i++List.replicate (16*(l.length-i)) 0
theorem xa{l:List (List UInt8)}(hl: ∀x∈l,x.length=16): ∀i,i≤l.length→(mP l i).length=16*i
 |0,_=>by simp[mP]
 |i+1,h=>by
  rw[yR l i (by omega),aqa,xa hl i (by omega),hl _ (apY _)];omega
theorem Ge{l:List (List UInt8)}(hl: ∀x∈l,x.length=16)(i:Nat)(h:i≤l.length):(jn l i).length=16*l.length:=by
 rw[jn,aqa,xa hl i h,List.length_replicate];omega
theorem Wl{l:List (List UInt8)}(hl: ∀x∈l,x.length=16)(i:Nat)(h:i<l.length):eB ((jn l i).map aF) (16*i) (l[i].map aF)=(jn l (i+1)).map aF:=by
 have hc:=xa hl i (by omega)
 have hx:=hl l[i] (apY _)
 have hj:=Ge hl i (by omega)
 rw[E0 (by simp[hj,hx];omega),←arX,←arY,←arn,←arn]
 congr 1
 rw[aqz,hx,jn,jn,yR l i h,are (by omega),apR (by omega),ap3,ap3,arZ,List.drop_of_length_le (by omega),List.nil_append,hc,List.drop_replicate,
  show 16*(l.length-i)-(16*i+16-16*i)=16*(l.length-(i+1)) by omega]
theorem Qn(l:List (List UInt8))(hn:l.length≤1000000)(hl: ∀x∈l,x.length=16):ao prog 194 [.sl l.length (l.map V.str)] (.str l.flatten):=by
 refine ah func194 rfl call194 ?_ ?_
 rotate_left 1
 refine af (s':=(.sl l.length (l.map V.str):V)::zJ 25) rfl ?_;dsimp only[zJ]
 repeat' (first|refine Zq ?_|refine Zt ?_|(refine Yb rfl ?_ ?_<;>intro ab<;>(try simp at ab)<;>try exact dc))
 ·refine aV (fun i=>(some V.aa::none::some V.aa::some (V.av 0 0 (16*l.length) 1)::zS 6 (zN 2 (some (V.int .i64 i)::zS 13 [])))) (fun i=> [.live ((jn l i).map aF)]) l.length ?_ fun i hi KL hL=>?_
  ·dsimp only[aE,zN,zS]
   have e:((l.length:Int)*16).toNat=16*l.length:=by omega
   rw[e]
   exact Yr [some 0] (by simp[ae,jn,mP,aF])
  dsimp only[aE,zN,zS]
  have sL:=Ge hl i hi
  rcases apQ i l.length with hi|hi
  ·have hx:=hl l[i] (apY _)
   repeat' (first|refine Z0 (Zj sL hx) ?_|refine Zt ?_|(refine Yb rfl ?_ ?_<;>intro ab<;>(try simp at ab)<;>try exact dc))
   refine hL _ _ hi ?_
   rw[show((i:Int)*16).toNat=16*i by omega,Wl hl i hi]
   exact Yr [some 0] (by simp[ae])
  obtain rfl:i=l.length:=by omega
  have Qo:jn l l.length=l.flatten:=by simp[jn,mP]
  repeat' (first|refine Z0 (Zj @cS (Zj sL @apR.{0})) ?_|refine Zt ?_|(refine Yb rfl ?_ ?_<;>intro ab<;>(try simp at ab)<;>try exact dc))
  rw[Qo]
  simp
  exact .pure .str
 ·exact .str
def kB(id:List UInt8)(leaf:Int)(ends:List (List UInt8)):List UInt8:=eO ([76]++id++cg leaf++ends.flatten)
theorem Di{l:List (List UInt8)}(hl: ∀x∈l,x.length=16):l.flatten.length=16*l.length:=by
 have:=xa hl l.length (aqf _)
 rwa[mP,ari]at this
theorem LI(id:List UInt8)(leaf:Int)(ends:List (List UInt8))(hi:id.length≤1000)(hn:ends.length≤1000)(hl: ∀x∈ends,x.length=16):
  ao prog 147 [.str id,.int .i64 leaf,.sl ends.length (ends.map V.str)] (.str (kB id leaf ends)):=by
 refine ah func147 rfl call147 ?_ ?_
 rotate_left 1
 refine af (s':=(.str id:V)::(.int .i64 leaf:V)::(.sl ends.length (ends.map V.str):V)::zJ 11) rfl ?_;dsimp only[zJ]
 have hf:=Di hl
 repeat' (first|(refine Zu ?_;intro K9 h9;refine Zd ?_;((first|refine Ap (MO _) ?_|refine Ap (Qn ends (by omega) hl) ?_|refine aI (qp [[76],id,cg leaf,ends.flatten] (by simp) (by rw[aqN,aqN,aqN,aqN,List.flatten_nil];simp only[aqa,hf,Hx,apS,aqh];omega)) ⟨bK rfl (by simp) (by simp),trivial⟩ .str ?_|skip)<;>(refine Zf h9 ?_;clear h9 K9)))|refine Zt ?_|fail)
 ·simp[kB]
  exact .pure .str
 ·exact .str
def lJ(id ai:List UInt8)(leaf:Int)(k:Nat):List (List UInt8):=(List.range k).map fun(c:Nat)=>lr id leaf (c:Int) 0 15 (oX ai leaf (c:Int))
@[simp] theorem Hy(id ai:List UInt8)(leaf:Int)(k:Nat):(lJ id ai leaf k).length=k:=by simp[lJ]
theorem LJ(id ai:List UInt8)(leaf:Int)(k:Nat):lJ id ai leaf (k+1)=lJ id ai leaf k++[lr id leaf (k:Int) 0 15 (oX ai leaf k)]:=by simp[lJ,aqV]
theorem Qp(id ai:List UInt8)(leaf:Int)(k:Nat): ∀x∈lJ id ai leaf k,x.length=16:=by
 intro x hx
 obtain⟨c,-,rfl⟩:=aqd.1 hx
 exact j5 _ _ _ _ _ _ (k6 _ _ _)
def E1(id ai:List UInt8)(leaf:Int):V:=if jy id ai leaf=0 then .aB [.str (kB id leaf (lJ id ai leaf 35)),.int .i64 0]else .aB [.str [],.int .i64 (jy id ai leaf)]
theorem Dj{id ai:List UInt8}{leaf:Int}(h:jy id ai leaf=0):id.length=16∧ai.length=32∧0≤leaf∧leaf<256:=by
 unfold jy ew at h
 split at h
 ·omega
 ·split at h
  ·omega
  ·split at h
   ·omega
   ·omega
end Go.Proofs.YtjlnoogcggdhkaaGreatDoor
namespace Go.Proofs.YtjlnoogcggdhkaaGreatDoor
open Go.Proofs.Tryz
open Go.VS
set_option linter.all false
attribute [local irreducible] bj au aS bz gl eO
theorem LK(id ai:List UInt8)(leaf:Int)(k:Nat):(lJ id ai leaf k).flatten.length=16*k:=by rw[Di (Qp id ai leaf k),Hy]
def Gf(id ai:List UInt8)(leaf:Int)(k:Nat):List UInt8:=(lJ id ai leaf k).flatten
theorem N8(id ai:List UInt8)(leaf:Int)(k:Nat):(Gf id ai leaf k).length=16*k:=LK id ai leaf k
theorem Tq(id ai:List UInt8)(leaf:Int)(k:Nat):Gf id ai leaf (k+1)=Gf id ai leaf k++lr id leaf (k:Int) 0 15 (oX ai leaf (k:Int)):=by simp[Gf,LJ]
theorem Hz(id ai:List UInt8)(leaf:Int)(hi:id.length≤140737488355328)(hs:ai.length≤140737488355328):ao prog 143 [.str id,.str ai,.int .i64 leaf] (E1 id ai leaf):=by
 refine ah func143 rfl call143 ?_ ?_
 rotate_left 1
 refine af (s':=(.str id:V)::(.str ai:V)::(.int .i64 leaf:V)::zJ 35) rfl ?_;dsimp only[zJ]
 by_cases h0:jy id ai leaf=0
 ·obtain⟨a1,a2,a3,a4⟩:=Dj h0
  repeat' (first|(refine Zu ?_;intro K9 h9;simp(disch:=first|exact dd|fail) [h0];refine Zm ?_;((first|refine Ap (nm id ai leaf hi hs) ?_|skip)<;>(refine Zf h9 ?_;clear h9 K9)))|refine Zt ?_|(refine Yb rfl ?_ ?_<;>intro ab<;>(try simp at ab)<;>try exact dc))
  refine aV (fun k=>(zN 6 (zS 3 (some (V.str (Gf id ai leaf k))::some (V.int .i64 k)::zS 27 [])))) (fun k=> []) 35 ?_ fun k hk KL hL=>?_
  ·dsimp only[aE,zN,zS]
   exact Le.drop (by simp[Gf,lJ])
  dsimp only[aE,zN,zS]
  have bZ:=N8 id ai leaf k
  have vW:=j5 id leaf (k:Int) 0 15 (oX ai leaf k) (k6 _ _ _)
  rcases apQ k 35 with hk|hk
  ·repeat' (first|(refine Zu ?_;intro K9 h9;refine Zd ?_;((first|refine Ap (yS ai leaf k (by omega)) ?_|refine Ap (w9 id leaf k 0 15 (oX ai leaf k) (by omega) (k6 _ _ _) (by omega) (by omega)) ?_|skip)<;>(refine Zf h9 ?_;clear h9 K9)))|refine Zt ?_|(refine Yb rfl ?_ ?_<;>intro ab<;>(try simp at ab)<;>try exact dc))
   refine hL _ _ hk ?_
   exact Le.drop (by dsimp only[aE,zN,zS];simp[Tq])
  obtain rfl:k=35:=by omega
  repeat' (first|(refine Zu ?_;intro K9 h9;refine Zd ?_;((first|refine Ap (jJ _) ?_|refine aI (fS [[76],id,cg leaf,Gf id ai leaf 35] (by simp) (by simp;omega)) ⟨bK rfl (by simp) (by simp),trivial⟩ .str ?_|skip)<;>(refine Zf h9 ?_;clear h9 K9)))|refine Zt ?_|(refine Yb rfl ?_ ?_<;>intro ab<;>(try simp at ab)<;>try exact dc))
  rw[E1,if_pos h0]
  simp[kB,Gf]
  exact .pure (by simp)
 ·repeat' (first|(refine Zu ?_;intro K9 h9;simp(disch:=first|exact dd|fail) [h0];refine Zm ?_;((first|refine Ap (nm id ai leaf hi hs) ?_|skip)<;>(refine Zf h9 ?_;clear h9 K9)))|refine Zt ?_|(refine Yb rfl ?_ ?_<;>intro ab<;>(try simp at ab)<;>try exact dc))
  rw[E1,if_neg h0]
  simp
  exact .pure (by simp)
 ·unfold E1;split<;>simp
def fD(k:Int):List UInt8:=gl ([115,101,101,100]++cg k)
@[simp] theorem HA(k:Int):(fD k).length=32:=by rw[fD,LG]
theorem N9(k:Int):ao prog 93 [.int .i64 k] (.str (fD k)):=by
 refine ah func93 rfl call93 ?_ ?_
 rotate_left 1
 refine af (s':=(.int .i64 k:V)::zJ 6) rfl ?_;dsimp only[zJ]
 repeat' (first|(refine Zu ?_;intro K9 h9;refine Zd ?_;((first|refine Ap (jJ _) ?_|refine aI (Gd [[115,101,101,100],cg k] (by simp) (by simp)) ⟨bK rfl (by simp) (by simp),trivial⟩ .str ?_|skip)<;>(refine Zf h9 ?_;clear h9 K9)))|refine Zt ?_|fail)
 ·simp[fD]
  exact .pure .str
 ·exact .str
end Go.Proofs.YtjlnoogcggdhkaaGreatDoor
namespace Go.Proofs.YtjlnoogcggdhkaaGreatDoor
open Go.Proofs.Tryz
open Go.VS
set_option linter.all false
attribute [local irreducible] bj au aS bz gl eO
def nV(d:List UInt8)(c:Nat):Nat:=((kC d).getD c 0).toNat
theorem Dk(d:List UInt8)(h:d.length=16): ∀x∈kC d,0≤x∧x≤15:=by
 have hb:=k9 d
 intro x hx
 simp only[kC,aqr]at hx
 rcases hx with hx|hx
 ·obtain⟨c,-,hc⟩:=List.mem_flatMap.1 hx
  have:c.toNat<256:=aqk _
  simp at hc
  rcases hc with rfl|rfl<;>omega
 ·simp at hx
  rcases hx with rfl|rfl|rfl<;>omega
theorem E2(d:List UInt8)(h:d.length=16)(c:Nat):nV d c≤15:=by
 unfold nV
 rcases apQ c (kC d).length with hc|hc
 ·have:=Dk d h _ (apY hc)
  simp[ap2,hc];omega
 ·simp[ap2,hc]
theorem sS(d:List UInt8)(h:d.length=16)(c:Nat)(hc:c<(kC d).length):(kC d)[c]=(nV d c:Int):=by
 have:=Dk d h _ (apY hc)
 simp[nV,ap2,hc];omega
def yT(id ai:List UInt8)(leaf:Int)(d:List UInt8)(k:Nat):List (List UInt8):=(List.range k).map fun(c:Nat)=>lr id leaf (c:Int) 0 (nV d c) (oX ai leaf (c:Int))
@[simp] theorem LL(id ai:List UInt8)(leaf:Int)(d:List UInt8)(k:Nat):(yT id ai leaf d k).length=k:=by simp[yT]
theorem Qq(id ai:List UInt8)(leaf:Int)(d:List UInt8)(k:Nat):yT id ai leaf d (k+1)=yT id ai leaf d k++[lr id leaf (k:Int) 0 (nV d k) (oX ai leaf (k:Int))]:=by simp[yT,aqV]
theorem Wm(id ai:List UInt8)(leaf:Int)(d:List UInt8)(k:Nat): ∀x∈yT id ai leaf d k,x.length=16:=by
 intro x hx
 obtain⟨c,-,rfl⟩:=aqd.1 hx
 exact j5 _ _ _ _ _ _ (k6 _ _ _)
def vF(id ai:List UInt8)(leaf:Int)(d:List UInt8)(k:Nat):List UInt8:=(yT id ai leaf d k).flatten
theorem yU(id ai:List UInt8)(leaf:Int)(d:List UInt8)(k:Nat):(vF id ai leaf d k).length=16*k:=by rw[vF,Di (Wm id ai leaf d k),LL]
theorem Wn(id ai:List UInt8)(leaf:Int)(d:List UInt8)(k:Nat):vF id ai leaf d (k+1)=vF id ai leaf d k++lr id leaf (k:Int) 0 (nV d k) (oX ai leaf (k:Int)):=by simp[vF,Qq]
def Co(id ai:List UInt8)(leaf:Int)(d:List UInt8):V:=
 if jy id ai leaf=0 then(if d.length=16 then .aB [.str (vF id ai leaf d 35),.int .i64 0]else .aB [.str [],.int .i64 7])else .aB [.str [],.int .i64 (jy id ai leaf)]
set_option maxHeartbeats 4000000 in
theorem Oa(id ai:List UInt8)(leaf:Int)(d:List UInt8)(hi:id.length≤140737488355328)(hs:ai.length≤140737488355328)(hd:d.length≤140737488355328):
  ao prog 82 [.str id,.str ai,.int .i64 leaf,.str d] (Co id ai leaf d):=by
 refine ah func82 rfl call82 ?_ ?_
 rotate_left 1
 refine af (s':=(.str id:V)::(.str ai:V)::(.int .i64 leaf:V)::(.str d:V)::zJ 47) rfl ?_;dsimp only[zJ]
 by_cases h0:jy id ai leaf=0
 ·obtain⟨a1,a2,a3,a4⟩:=Dj h0
  by_cases gp:d.length=16
  ·have hr:j6 d=.aB [.sl 35 (ints (kC d)),.int .i64 0]:=by rw[j6,if_pos gp]
   have vY:(kC d).length=35:=ve d gp
   repeat' (first|(refine Zu ?_;intro K9 h9;simp(disch:=first|exact dd|fail) [h0,hr];refine Zm ?_;((first|refine Ap (nm id ai leaf hi hs) ?_|refine Ap (lK d (by omega)) ?_|skip)<;>(refine Zf h9 ?_;clear h9 K9)))|refine Zt ?_|(refine Zk 0 [] ?_;refine Zl ?_)|(refine Yb rfl ?_ ?_<;>intro ab<;>(try simp at ab)<;>try exact dc))
   refine aV (fun k=>(zN 3 (some V.aa::zN 4 (zS 3 (none::some V.aa::some (V.str (vF id ai leaf d k))::zS 17 (none::some (V.int .i64 k)::zS 18 [])))))) (fun k=> []) 35 ?_ fun k hk KL hL=>?_
   ·dsimp only[aE,zN,zS]
    exact Le.drop (by simp[vF,yT])
   dsimp only[aE,zN,zS]
   have vV:=yU id ai leaf d k
   have vW:=j5 id leaf (k:Int) 0 (nV d k) (oX ai leaf k) (k6 _ _ _)
   rcases apQ k 35 with hk|hk
   ·have hdk:=E2 d gp k
    repeat' (first|(refine Zu ?_;intro K9 h9;simp(disch:=first|exact dd|fail) [vY,lH,sS d gp];refine Zm ?_;((first|refine Ap (yS ai leaf k (by omega)) ?_|refine Ap (w9 id leaf k 0 (nV d k) (oX ai leaf k) (by omega) (k6 _ _ _) (by omega) (by omega)) ?_|skip)<;>(refine Zf h9 ?_;clear h9 K9)))|refine Zt ?_|(refine Zk 0 [] ?_;refine Zl ?_)|(refine Yb rfl ?_ ?_<;>intro ab<;>(try simp at ab)<;>try exact dc))
    refine hL _ _ hk ?_
    exact Le.drop (by dsimp only[aE,zN,zS];simp[Wn])
   obtain rfl:k=35:=by omega
   repeat' (first|refine Zq ?_|refine Zt ?_|(refine Zk 0 [] ?_;refine Zl ?_)|(refine Yb rfl ?_ ?_<;>intro ab<;>(try simp at ab)<;>try exact dc))
   rw[Co,if_pos h0,if_pos gp]
   simp
   exact .pure (by simp)
  ·have hr:j6 d=.aB [.aj,.int .i64 7]:=by rw[j6,if_neg gp]
   repeat' (first|(refine Zu ?_;intro K9 h9;simp(disch:=first|exact dd|fail) [h0,hr];refine Zm ?_;((first|refine Ap (nm id ai leaf hi hs) ?_|refine Ap (lK d (by omega)) ?_|skip)<;>(refine Zf h9 ?_;clear h9 K9)))|refine Zt ?_|(refine Zk 0 [] ?_;refine Zl ?_)|(refine Yb rfl ?_ ?_<;>intro ab<;>(try simp at ab)<;>try exact dc))
   rw[Co,if_pos h0,if_neg gp]
   simp
   exact .pure (by simp)
 ·repeat' (first|(refine Zu ?_;intro K9 h9;simp(disch:=first|exact dd|fail) [h0];refine Zm ?_;((first|refine Ap (nm id ai leaf hi hs) ?_|skip)<;>(refine Zf h9 ?_;clear h9 K9)))|refine Zt ?_|(refine Zk 0 [] ?_;refine Zl ?_)|(refine Yb rfl ?_ ?_<;>intro ab<;>(try simp at ab)<;>try exact dc))
  rw[Co,if_neg h0]
  simp
  exact .pure (by simp)
 ·unfold Co;split<;>(try split)<;>simp
end Go.Proofs.YtjlnoogcggdhkaaGreatDoor
namespace Go.Proofs.YtjlnoogcggdhkaaGreatDoor
open Go.Proofs.Tryz
open Go.VS
set_option linter.all false
attribute [local irreducible] bj au aS bz gl eO
def nn(sig:List UInt8)(c:Nat):List UInt8:=(sig.drop (16*c)).take 16
theorem nO(sig:List UInt8)(c:Nat)(h:sig.length=560)(hc:c<35):(nn sig c).length=16:=by simp[nn];omega
def iR(id:List UInt8)(leaf:Int)(d sig:List UInt8)(k:Nat):List (List UInt8):=(List.range k).map fun(c:Nat)=>lr id leaf (c:Int) (nV d c) 15 (nn sig c)
@[simp] theorem LM(id:List UInt8)(leaf:Int)(d sig:List UInt8)(k:Nat):(iR id leaf d sig k).length=k:=by simp[iR]
theorem Gg(id:List UInt8)(leaf:Int)(d sig:List UInt8)(k:Nat):iR id leaf d sig (k+1)=iR id leaf d sig k++[lr id leaf (k:Int) (nV d k) 15 (nn sig k)]:=by simp[iR,aqV]
theorem MP(id:List UInt8)(leaf:Int)(d sig:List UInt8)(h:sig.length=560)(k:Nat)(hk:k≤35): ∀x∈iR id leaf d sig k,x.length=16:=by
 intro x hx
 obtain⟨c,hc,rfl⟩:=aqd.1 hx
 have:=aqv.1 hc
 exact j5 _ _ _ _ _ _ (nO _ _ h (by omega))
def rF(id:List UInt8)(leaf:Int)(d sig:List UInt8)(k:Nat):List UInt8:=(iR id leaf d sig k).flatten
theorem Qr(id:List UInt8)(leaf:Int)(d sig:List UInt8)(h:sig.length=560)(k:Nat)(hk:k≤35):(rF id leaf d sig k).length=16*k:=by rw[rF,Di (MP id leaf d sig h k hk),LM]
theorem Wo(id:List UInt8)(leaf:Int)(d sig:List UInt8)(k:Nat):rF id leaf d sig (k+1)=rF id leaf d sig k++lr id leaf (k:Int) (nV d k) 15 (nn sig k):=by simp[rF,Gg]
def lk(id:List UInt8)(leaf:Int)(d sig:List UInt8):V:=
 if ew id leaf≠0 then .aB [.str [],.int .i64 (ew id leaf)]else if d.length≠16 then .aB [.str [],.int .i64 7]else if sig.length≠560 then .aB [.str [],.int .i64 17]else
  .aB [.str (kB id leaf (iR id leaf d sig 35)),.int .i64 0]
theorem Ob{id:List UInt8}{leaf:Int}(h:ew id leaf=0):id.length=16∧0≤leaf∧leaf<256:=by
 unfold ew at h
 split at h
 ·omega
 ·split at h
  ·omega
  ·omega
set_option maxHeartbeats 4000000 in
theorem Iz(id:List UInt8)(leaf:Int)(d sig:List UInt8)(hi:id.length≤140737488355328)(hd:d.length≤140737488355328)(hs:sig.length≤140737488355328):
  ao prog 97 [.str id,.int .i64 leaf,.str d,.str sig] (lk id leaf d sig):=by
 refine ah func97 rfl call97 ?_ ?_
 rotate_left 1
 refine af (s':=(.str id:V)::(.int .i64 leaf:V)::(.str d:V)::(.str sig:V)::zJ 54) rfl ?_;dsimp only[zJ]
 by_cases h0:ew id leaf=0
 ·obtain⟨a1,a3,a4⟩:=Ob h0
  by_cases gp:d.length=16
  ·have hr:j6 d=.aB [.sl 35 (ints (kC d)),.int .i64 0]:=by rw[j6,if_pos gp]
   have vY:(kC d).length=35:=ve d gp
   by_cases np:(sig.length:Int)=560
   ·repeat' (first|(refine Zu ?_;intro K9 h9;simp(disch:=first|exact dd|fail) [h0,hr,np];refine Zm ?_;((first|refine Ap (mj id leaf hi) ?_|refine Ap (vg d (by omega)) ?_|skip)<;>(refine Zf h9 ?_;clear h9 K9)))|refine Zt ?_|(refine Zk 2 [] ?_;refine Zl ?_)|(refine Yb rfl ?_ ?_<;>intro ab<;>(try simp at ab)<;>try exact dc))
    refine aV (fun k=>(zN 2 (some V.aa::zN 5 (zS 3 (none::some V.aa::some (V.av 0 0 k 1)::some (V.int .i64 k)::zS 43 []))))) (fun k=> [.live ((iR id leaf d sig k).map V.str)]) 35 ?_ fun k hk KL hL=>?_
    ·dsimp only[aE,zN,zS]
     exact Yr [none] (by simp[ae,iR])
    dsimp only[aE,zN,zS]
    have e4:List.take k (List.map V.str (iR id leaf d sig k))=List.map V.str (iR id leaf d sig k):=apR (by simp)
    rcases apQ k 35 with hk|hk
    ·have hdk:=E2 d gp k
     have q0:((k:Int)*16).toNat=16*k:=by omega
     have q1:(((k:Int)+1)*16).toNat=16*k+16:=by omega
     have hp:List.take 16 (List.drop (16*k) sig)=nn sig k:=rfl
     repeat' (first|(refine Zu ?_;intro K9 h9;simp(disch:=first|exact dd|fail) [e4,vY,lH,sS d gp,q0,q1,hp];refine Zm ?_;((first|refine Ap (Tp id leaf k (nV d k) 15 (nn sig k) (by omega) (nO sig k (by omega) hk) (by omega) (by omega)) ?_|skip)<;>(refine Zf h9 ?_;clear h9 K9)))|refine Zt ?_|(refine Zk 2 [] ?_;refine Zl ?_)|(refine Yb rfl ?_ ?_<;>intro ab<;>(try simp at ab)<;>try exact dc))
     refine hL _ _ hk ?_
     exact Yr [some 2] (by simp[ae,Gg])
    obtain rfl:k=35:=by omega
    repeat' (first|(refine Zu ?_;intro K9 h9;refine Zd ?_;((first|refine aI (LI id leaf (iR id leaf d sig 35) (by omega) (by simp) (MP _ _ _ _ (by omega) _ (by omega))) ⟨.pure .str,.pure .int,bK rfl (by simp) NQ,trivial⟩ .str ?_|skip)<;>(refine Zf h9 ?_;clear h9 K9)))|refine Zt ?_|(refine Zk 2 [] ?_;refine Zl ?_)|(refine Yb rfl ?_ ?_<;>intro ab<;>(try simp at ab)<;>try exact dc))
    rw[lk,if_neg (by omega),if_neg (by omega),if_neg (by omega)]
    simp
    exact .pure (by simp)
   ·repeat' (first|(refine Zu ?_;intro K9 h9;simp(disch:=first|exact dd|fail) [h0,hr,np];refine Zm ?_;((first|refine Ap (mj id leaf hi) ?_|refine Ap (vg d (by omega)) ?_|skip)<;>(refine Zf h9 ?_;clear h9 K9)))|refine Zt ?_|(refine Zk 2 [] ?_;refine Zl ?_)|(refine Yb rfl ?_ ?_<;>intro ab<;>(try simp at ab)<;>try exact dc))
    rw[lk,if_neg (by omega),if_neg (by omega),if_pos (by omega)]
    simp
    exact .pure (by simp)
  ·have hr:j6 d=.aB [.aj,.int .i64 7]:=by rw[j6,if_neg gp]
   repeat' (first|(refine Zu ?_;intro K9 h9;simp(disch:=first|exact dd|fail) [h0,hr];refine Zm ?_;((first|refine Ap (mj id leaf hi) ?_|refine Ap (vg d (by omega)) ?_|skip)<;>(refine Zf h9 ?_;clear h9 K9)))|refine Zt ?_|(refine Zk 2 [] ?_;refine Zl ?_)|(refine Yb rfl ?_ ?_<;>intro ab<;>(try simp at ab)<;>try exact dc))
   rw[lk,if_neg (by omega),if_pos (by omega)]
   simp
   exact .pure (by simp)
 ·repeat' (first|(refine Zu ?_;intro K9 h9;simp(disch:=first|exact dd|fail) [h0];refine Zm ?_;((first|refine Ap (mj id leaf hi) ?_|skip)<;>(refine Zf h9 ?_;clear h9 K9)))|refine Zt ?_|(refine Zk 2 [] ?_;refine Zl ?_)|(refine Yb rfl ?_ ?_<;>intro ab<;>(try simp at ab)<;>try exact dc))
  rw[lk,if_pos (by omega)]
  simp
  exact .pure (by simp)
 ·unfold lk;split<;>(try split)<;>(try split)<;>simp
end Go.Proofs.YtjlnoogcggdhkaaGreatDoor
namespace Go.Proofs.YtjlnoogcggdhkaaGreatDoor
open Go.Proofs.Tryz
open Go.VS
set_option linter.all false
attribute [local irreducible] bj au aS bz gl eO
set_option maxHeartbeats 4000000 in
theorem HB(id:List UInt8)(leaf:Int)(d sig:List UInt8)(hi:id.length≤140737488355328)(hd:d.length≤140737488355328)(hs:sig.length≤140737488355328):
  ao prog 57 [.str id,.int .i64 leaf,.str d,.str sig] (lk id leaf d sig):=by
 refine ah func57 rfl call57 ?_ ?_
 rotate_left 1
 refine af (s':=(.str id:V)::(.int .i64 leaf:V)::(.str d:V)::(.str sig:V)::zJ 59) rfl ?_;dsimp only[zJ]
 by_cases c1:(id.length:Int)=16
 ·by_cases c2:leaf<0
  ·have h0:ew id leaf=1:=by unfold ew;rw[if_neg (by omega),if_pos (by omega)]
   repeat' (first|refine Z3 (Zj c1 c2) ?_|refine Zt ?_|(refine Zk 0 [] ?_;refine Zl ?_)|(refine Yb rfl ?_ ?_<;>intro ab<;>(try simp at ab)<;>try exact dc)|refine Z6 (Zj c1 c2) ?_|fail)
   rw[lk,if_pos (by omega),h0]
   simp
   exact .pure (by simp)
  ·by_cases c3:256≤leaf
   ·have h0:ew id leaf=1:=by unfold ew;rw[if_neg (by omega),if_pos (by omega)]
    repeat' (first|refine Z3 (Zj c1 (Zj c2 c3)) ?_|refine Zt ?_|(refine Zk 0 [] ?_;refine Zl ?_)|(refine Yb rfl ?_ ?_<;>intro ab<;>(try simp at ab)<;>try exact dc)|refine Z6 (Zj c1 (Zj c2 c3)) ?_|fail)
    rw[lk,if_pos (by omega),h0]
    simp
    exact .pure (by simp)
   ·have h0:ew id leaf=0:=by unfold ew;rw[if_neg (by omega),if_neg (by omega)]
    by_cases gp:d.length=16
    ·have hr:j6 d=.aB [.sl 35 (ints (kC d)),.int .i64 0]:=by rw[j6,if_pos gp]
     have vY:(kC d).length=35:=ve d gp
     by_cases np:(sig.length:Int)=560
     ·have a1:id.length=16:=by omega
      repeat' (first|((first|refine Zu ?_|(refine Zv ?_ ?_;(focus (simp[c1,c2,c3,hr,np];done))));intro K9 h9;simp(disch:=first|exact dd|fail) [c1,c2,c3,hr,np];refine Zm ?_;((first|refine Ap (lK d (by omega)) ?_|skip)<;>(refine Zf h9 ?_;clear h9 K9)))|refine Zt ?_|(refine Zk 0 [] ?_;refine Zl ?_)|(refine Yb rfl ?_ ?_<;>intro ab<;>(try simp at ab)<;>try exact dc)|refine Z6 (Zj c1 (Zj c2 (Zj c3 (Zj hr np)))) ?_|fail)
      refine aV (fun k=>(zN 2 (some V.aa::zN 5 (zS 2 (none::some V.aa::some (V.str (rF id leaf d sig k))::zS 22 (none::some (V.int .i64 k)::zS 26 [])))))) (fun k=> []) 35 ?_ fun k hk KL hL=>?_
      ·dsimp only[aE,zN,zS]
       exact Le.drop (by simp[rF,iR])
      dsimp only[aE,zN,zS]
      have ie:=Qr id leaf d sig (by omega) k hk
      rcases apQ k 35 with hk|hk
      ·have hdk:=E2 d gp k
       have vW:=j5 id leaf (k:Int) (nV d k) 15 (nn sig k) (nO sig k (by omega) hk)
       have q0:((k:Int)*16).toNat=16*k:=by omega
       have q1:(((k:Int)+1)*16).toNat=16*k+16:=by omega
       have hp:List.take 16 (List.drop (16*k) sig)=nn sig k:=rfl
       repeat' (first|((first|refine Zu ?_|(refine Zv ?_ ?_;(focus (simp[vY,lH,sS d gp,q0,q1,hp];done))));intro K9 h9;simp(disch:=first|exact dd|fail) [vY,lH,sS d gp,q0,q1,hp];refine Zm ?_;((first|refine Ap (w9 id leaf k (nV d k) 15 (nn sig k) (by omega) (nO sig k (by omega) hk) (by omega) (by omega)) ?_|skip)<;>(refine Zf h9 ?_;clear h9 K9)))|refine Zt ?_|(refine Zk 0 [] ?_;refine Zl ?_)|(refine Yb rfl ?_ ?_<;>intro ab<;>(try simp at ab)<;>try exact dc)|(refine Zn ?_ ?_;(focus (simp[vY,lH,sS d gp,q0,q1,hp];done));refine Zs ?_)|fail)
       refine hL _ _ hk ?_
       exact Le.drop (by dsimp only[aE,zN,zS];simp[Wo])
      obtain rfl:k=35:=by omega
      repeat' (first|((first|refine Zu ?_|(refine Zv ?_ ?_;(focus (simp;done))));intro K9 h9;refine Zd ?_;((first|refine Ap (jJ _) ?_|refine aI (fS [[76],id,cg leaf,rF id leaf d sig 35] (by simp) (by simp;omega)) ⟨bK rfl (by simp) (by simp),trivial⟩ .str ?_|skip)<;>(refine Zf h9 ?_;clear h9 K9)))|refine Zt ?_|(refine Zk 0 [] ?_;refine Zl ?_)|(refine Yb rfl ?_ ?_<;>intro ab<;>(try simp at ab)<;>try exact dc)|refine Zo ?_|fail)
      rw[lk,if_neg (by omega),if_neg (by omega),if_neg (by omega)]
      simp[kB,rF]
      exact .pure (by simp)
     ·repeat' (first|((first|refine Zu ?_|(refine Zv ?_ ?_;(focus (simp[c1,c2,c3,hr,np];done))));intro K9 h9;simp(disch:=first|exact dd|fail) [c1,c2,c3,hr,np];refine Zm ?_;((first|refine Ap (lK d (by omega)) ?_|skip)<;>(refine Zf h9 ?_;clear h9 K9)))|refine Zt ?_|(refine Zk 0 [] ?_;refine Zl ?_)|(refine Yb rfl ?_ ?_<;>intro ab<;>(try simp at ab)<;>try exact dc)|refine Z6 (Zj c1 (Zj c2 (Zj c3 (Zj hr np)))) ?_|fail)
      rw[lk,if_neg (by omega),if_neg (by omega),if_pos (by omega)]
      simp
      exact .pure (by simp)
    ·have hr:j6 d=.aB [.aj,.int .i64 7]:=by rw[j6,if_neg gp]
     repeat' (first|((first|refine Zu ?_|(refine Zv ?_ ?_;(focus (simp[c1,c2,c3,hr];done))));intro K9 h9;simp(disch:=first|exact dd|fail) [c1,c2,c3,hr];refine Zm ?_;((first|refine Ap (lK d (by omega)) ?_|skip)<;>(refine Zf h9 ?_;clear h9 K9)))|refine Zt ?_|(refine Zk 0 [] ?_;refine Zl ?_)|(refine Yb rfl ?_ ?_<;>intro ab<;>(try simp at ab)<;>try exact dc)|refine Z6 (Zj c1 (Zj c2 (Zj c3 hr))) ?_|fail)
     rw[lk,if_neg (by omega),if_pos (by omega)]
     simp
     exact .pure (by simp)
 ·have h0:ew id leaf=18:=by unfold ew;rw[if_pos (by omega)]
  repeat' (first|refine Z3 c1 ?_|refine Zt ?_|(refine Zk 0 [] ?_;refine Zl ?_)|(refine Yb rfl ?_ ?_<;>intro ab<;>(try simp at ab)<;>try exact dc)|refine Z6 c1 ?_|fail)
  rw[lk,if_pos (by omega),h0]
  simp
  exact .pure (by simp)
 ·unfold lk;split<;>(try split)<;>(try split)<;>simp
end Go.Proofs.YtjlnoogcggdhkaaGreatDoor
namespace Go.Proofs.YtjlnoogcggdhkaaGreatDoor
open Go.Proofs.Tryz
open Go.VS
set_option linter.all false
attribute [local irreducible] bj au aS bz gl eO
def dk(l:List Int)(a:Nat):List V:=[.sl l.length (l.map (V.int .i64)),.int .i64 a]
def IA(l:List Int)(a:Nat):Nat:=if l.length≤a then a else a+1
def By(l:List Int)(a n:Nat):Int:=if l.length≤a then 0 else(((l.getD a 0).tmod n+n).tmod n)
@[simp] theorem nW(l:List Int)(a:Nat):bf (dk l a):=by simp[dk]
theorem Bz{x:Int}{n:Nat}(hn:0<n): -(n:Int)<x.tmod n∧x.tmod n<n:=by
 rcases Int.le_total 0 x with h|h
 ·have:=ar3 (n:Int) h
  have:=arv x (show(0:Int)<n by omega)
  omega
 ·have h1:(-x).tmod n= -(x.tmod n):=Int.neg_tmod x n
  have:=ar3 (n:Int) (show 0≤ -x by omega)
  have:=arv (-x) (show(0:Int)<n by omega)
  omega
theorem Oc{l:List Int}{a n:Nat}(hn:0<n):0≤By l a n∧By l a n<n:=by
 unfold By
 split
 ·omega
 ·have h:=Bz (x:=l.getD a 0) hn
  exact⟨ar3 _ (by omega),arv _ (by omega)⟩
theorem qz(l:List Int):Da prog 4 [.sl l.length (l.map (V.int .i64))] (dk l 0):=by
 refine Db func4 rfl call4 ?_
 refine af (s':=(.sl l.length (l.map (V.int .i64)):V)::zJ 5) rfl ?_;dsimp only[zJ]
 refine b8 fun K hK=>?_
 refine dg ?_
 iterate 1 (first|(refine dX ?_ ?_;(focus (simp;done));dsimp only[aD,sset])|(refine dn (by simp;done) fun K9 h9=>?_;simp;refine h9 _ _ ?_;clear h9 K9;dsimp only[aD,sset]))
 refine ed ?_
 refine hK _ _ ?_;clear hK K
 refine b8 fun K hK=>?_
 refine dg ?_
 iterate 4 (first|(refine dX ?_ ?_;(focus (simp;done));dsimp only[aD,sset])|(refine dn (by simp;done) fun K9 h9=>?_;simp;refine h9 _ _ ?_;clear h9 K9;dsimp only[aD,sset]))
 refine ed ?_
 refine hK _ _ ?_;clear hK K
 refine pT ?_
 refine C4 ?_
 simp[dk]
end Go.Proofs.YtjlnoogcggdhkaaGreatDoor
