/-
 CONTRACTS: the digits of a digest.
 Conditions: none.
-/
import Derived.Test.YtjlnoogcggdhkaaGreatDoorTab
import Derived.Test.YtjlnoogcggdhkaaGreatDoorGd
namespace Go.Proofs.YtjlnoogcggdhkaaGreatDoor
open Go.Proofs.Tryz
open Go.VS
set_option linter.all false
attribute [local irreducible] bj au aS
def ji(l:List UInt8):List Int:=l.flatMap fun c=> [(c.toNat:Int)/16,(c.toNat:Int)%16]
def jc(l:List UInt8):Int:=(l.map fun c=>30-(c.toNat:Int)/16-(c.toNat:Int)%16).sum
def kC(l:List UInt8):List Int:=ji l++[jc l/256,jc l/16%16,jc l%16]
def ints(l:List Int):List V:=l.map (V.int .i64)
def j6(l:List UInt8):V:=if l.length=16 then .aB [.sl 35 (ints (kC l)),.int .i64 0]else .aB [.aj,.int .i64 7]
theorem Gj(l:List UInt8)(c:UInt8):ji (l++[c])=ji l++[(c.toNat:Int)/16,(c.toNat:Int)%16]:=by simp[ji]
theorem Dm(l:List UInt8)(c:UInt8):jc (l++[c])=jc l+(30-(c.toNat:Int)/16-(c.toNat:Int)%16):=by simp[jc]
@[simp] theorem abo(l:List UInt8):(ji l).length=2*l.length:=by
 induction l with
 |nil=>rfl
 |cons c l ih=>simp[ji]at ih⊢;omega
theorem k9: ∀l:List UInt8,0≤jc l∧jc l≤30*l.length
 |[]=>by simp[jc]
 |c::l=>by
  have h:=k9 l
  have hc:c.toNat<256:=aqk _
  simp only[jc,aqt,List.sum_cons,apS]at h⊢
  omega
@[simp] theorem abp(l:List Int):(ints l).length=l.length:=by simp[ints]
@[simp] theorem abq(l m:List Int):ints (l++m)=ints l++ints m:=by simp[ints]
@[simp] theorem uq(l:List Int): ∀x∈ints l,x.Pure:=by
 intro x hx
 obtain⟨n,-,rfl⟩:=aqd.1 hx
 exact .int
theorem vg(l:List UInt8)(hl:l.length≤4611686018427387904):ao prog 145 [.str l] (j6 l):=by
 refine ah func145 rfl call145 (by unfold j6;split<;>simp) ?_
 refine b8 fun K hK=>?_
 refine dg ?_
 iterate 2 (first|(refine dX ?_ ?_;(focus (simp;done));dsimp only[aD,sset])|(refine dn (by simp;done) fun K9 h9=>?_;simp;refine h9 _ _ ?_;clear h9 K9;dsimp only[aD,sset]))
 refine ed ?_
 refine hK _ _ ?_;clear hK K
 refine b8 fun K hK=>?_
 refine b8 fun K2 iM=>?_
 refine dg ?_
 iterate 3 (first|(refine dX ?_ ?_;(focus (simp;done));dsimp only[aD,sset])|(refine dn (by simp;done) fun K9 h9=>?_;simp;refine h9 _ _ ?_;clear h9 K9;dsimp only[aD,sset]))
 refine ed ?_
 refine iM _ _ ?_;clear iM K2
 refine nS rfl (fun h=>?_) (fun h=>?_)
 ·refine b8 fun K2 iM=>?_
  refine dg ?_
  iterate 2 (first|(refine dX ?_ ?_;(focus (simp;done));dsimp only[aD,sset])|(refine dn (by simp;done) fun K9 h9=>?_;simp;refine h9 _ _ ?_;clear h9 K9;dsimp only[aD,sset]))
  refine ed ?_
  refine iM _ _ ?_;clear iM K2
  refine pT ?_
  simp
  have:l.length≠16:=by simp at h;omega
  rw[j6,if_neg this]
  exact .pure (by simp)
 ·refine wY ?_
  have gp:l.length=16:=by simp at h;omega
  refine hK _ _ ?_;clear hK K
  refine b8 fun K hK=>?_
  refine dg ?_
  iterate 1 (first|(refine dX ?_ ?_;(focus (simp;done));dsimp only[aD,sset])|(refine dn (by simp;done) fun K9 h9=>?_;simp;refine h9 _ _ ?_;clear h9 K9;dsimp only[aD,sset]))
  refine ed ?_
  refine hK _ _ ?_;clear hK K
  refine b8 fun K hK=>?_
  refine dg ?_
  iterate 1 (first|(refine dX ?_ ?_;(focus (simp;done));dsimp only[aD,sset])|(refine dn (by simp;done) fun K9 h9=>?_;simp;refine h9 _ _ ?_;clear h9 K9;dsimp only[aD,sset]))
  refine ed ?_
  refine hK _ _ ?_;clear hK K
  refine b8 fun K hK=>?_
  refine b8 fun K2 iM=>?_
  refine dg ?_
  iterate 4 (first|(refine dX ?_ ?_;(focus (simp;done));dsimp only[aD,sset])|(refine dn (by simp;done) fun K9 h9=>?_;simp;refine h9 _ _ ?_;clear h9 K9;dsimp only[aD,sset]))
  refine ed ?_
  refine iM _ _ ?_;clear iM K2
  refine ue ?_
  refine F4 (fun i=> [.str l,.aa,.aj,.int .i64 0,.av 1 0 (2*i) 1,.int .i64 (jc (l.take i)),.aa,.aa,.aa,.aa,.aa,.aa,.aa,.aa,.av 0 0 l.length 1,.int .i64 l.length,.int .i64 i,.aa,.aa,.aa,.aa,.aa,.aa,.aa,.aa,.aa,.aa,.aa,.aa,.aa,.aa,.aa,.aa,.aa,.aa,.aa,.aa,.aa,.aa,.aa,.aa,.aa,.aa,.aa,.aa,.aa,.aa,.aa,.aa])
   (fun i=> [.live (l.map aF),.live (ints (ji (l.take i)))]) l.length (Le.mk [some 0,none] (by simp[jc]) (aZ (by simp) (by simp[ae,ji,ints])) (by simp)) fun i hi K2 iM=>?_
  refine b8 fun K3 Dn=>?_
  refine dg ?_
  iterate 1 (first|(refine dX ?_ ?_;(focus (simp;done));dsimp only[aD,sset])|(refine dn (by simp;done) fun K9 h9=>?_;simp;refine h9 _ _ ?_;clear h9 K9;dsimp only[aD,sset]))
  refine ed ?_
  refine Dn _ _ ?_;clear Dn K3
  refine b8 fun K3 Dn=>?_
  refine nS rfl (fun h=>?_) (fun h=>?_)
  ·refine wY ?_
   refine Dn _ _ ?_;clear Dn K3
   have hi:i<l.length:=by simpa using h
   refine b8 fun K3 Dn=>?_
   refine ue ?_
   refine b8 fun K4 Gk=>?_
   refine dg ?_
   iterate 1 (first|(refine dX ?_ ?_;(focus (simp;done));dsimp only[aD,sset])|(refine dn (by simp;done) fun K9 h9=>?_;simp[hi];refine h9 _ _ ?_;clear h9 K9;dsimp only[aD,sset]))
   refine dn (by simp;done) fun K9 h9=>?_
   simp[hi]
   refine⟨fun e=>by subst e;simp at hi,h9 _ _ ?_⟩
   clear h9 K9;dsimp only[aD,sset]
   iterate 1 (first|(refine dX ?_ ?_;(focus (simp;done));dsimp only[aD,sset])|(refine dn (by simp;done) fun K9 h9=>?_;simp;refine h9 _ _ ?_;clear h9 K9;dsimp only[aD,sset]))
   refine ed ?_
   refine Gk _ _ ?_;clear Gk K4
   have hb:(l[i]).toNat<256:=aqk _
   simp only[aF]
   refine b8 fun K4 Gk=>?_
   refine dg ?_
   iterate 8 (first|(refine dX ?_ ?_;(focus (simp;done));dsimp only[aD,sset])|(refine dn (by simp;done) fun K9 h9=>?_;simp;refine h9 _ _ ?_;clear h9 K9;dsimp only[aD,sset]))
   refine ed ?_
   simp(disch:=omega) only[Tr,wrap_i64]
   refine Gk _ _ ?_;clear Gk K4
   refine b8 fun K4 Gk=>?_
   refine dg ?_
   have hs:=k9 (l.take i)
   have oq:(l.take i).length=i:=by simp;omega
   have kF:List.take (2*i) (ints (ji (l.take i)))=ints (ji (l.take i)):=apR (by simp;omega)
   have ht:l.take (i+1)=l.take i++[l[i]]:=by simp
   have wV:jc (l.take (i+1))=jc (l.take i)+(30-((l[i]).toNat:Int)/16-((l[i]).toNat:Int)%16):=by rw[ht,Dm]
   have Ts:ints (ji (l.take (i+1)))=ints (ji (l.take i))++[.int .i64 (((l[i]).toNat:Int)/16),.int .i64 (((l[i]).toNat:Int)%16)]:=by rw[ht,Gj];simp[ints]
   iterate 4 (first|(refine dX ?_ ?_;(focus (simp;done));dsimp only[aD,sset])|(refine dn (by simp;done) fun K9 h9=>?_;simp;refine h9 _ _ ?_;clear h9 K9;dsimp only[aD,sset]))
   refine dn (by simp;done) fun K9 h9=>?_
   simp[kF]
   refine⟨by omega,by omega,by omega,h9 _ _ ?_⟩
   clear h9 K9;dsimp only[aD,sset]
   iterate 1 (first|(refine dX ?_ ?_;(focus (simp;done));dsimp only[aD,sset])|(refine dn (by simp;done) fun K9 h9=>?_;simp;refine h9 _ _ ?_;clear h9 K9;dsimp only[aD,sset]))
   refine ed ?_
   refine Gk _ _ ?_;clear Gk K4
   refine dg ?_
   iterate 8 (first|(refine dX ?_ ?_;(focus (simp;done));dsimp only[aD,sset])|(refine dn (by simp;done) fun K9 h9=>?_;simp;refine h9 _ _ ?_;clear h9 K9;dsimp only[aD,sset]))
   refine ed ?_
   simp(disch:=omega) only[wrap_i64]
   refine Dn _ _ ?_;clear Dn K3
   refine dg ?_
   iterate 2 (first|(refine dX ?_ ?_;(focus (simp;done));dsimp only[aD,sset])|(refine dn (by simp;done) fun K9 h9=>?_;simp;refine h9 _ _ ?_;clear h9 K9;dsimp only[aD,sset]))
   refine ed ?_
   simp(disch:=omega) only[wrap_i64]
   refine iM _ _ hi (Le.mk [some 0,some 3] (by simp[wV];omega) (aZ (by simp) ?_) (by simp))
   simp[ae,Ts]
   exact(qn (by simp;exact fun x hx=>by rcases hx with hx|rfl|rfl<;>first|exact uq _ _ hx|exact .int)).2 trivial
  ·refine Cn ?_
   have ur:i=l.length:=by simp at h;omega
   subst ur
   refine hK _ _ ?_;clear Dn K3 iM K2 hK K
   have hs:=k9 l
   have kF:List.take (2*l.length) (ints (ji l))=ints (ji l):=apR (by simp)
   simp only[ari]
   refine b8 fun K hK=>?_
   refine dg ?_
   iterate 9 (first|(refine dX ?_ ?_;(focus (simp;done));dsimp only[aD,sset])|(refine dn (by simp;done) fun K9 h9=>?_;simp;refine h9 _ _ ?_;clear h9 K9;dsimp only[aD,sset]))
   refine dn (by simp;done) fun K9 h9=>?_
   simp[kF]
   refine⟨by omega,by omega,h9 _ _ ?_⟩
   clear h9 K9;dsimp only[aD,sset]
   iterate 2 (first|(refine dX ?_ ?_;(focus (simp;done));dsimp only[aD,sset])|(refine dn (by simp;done) fun K9 h9=>?_;simp;refine h9 _ _ ?_;clear h9 K9;dsimp only[aD,sset]))
   refine ed ?_
   rw[Gl (by omega) (by omega),Gl (by omega) (by omega)]
   refine hK _ _ ?_;clear hK K
   refine pT ?_
   simp
   rw[j6,if_pos gp]
   refine IG ⟨?_,.pure .int,trivial⟩
   rw[gp]
   exact bK (by simp[kC];simp[ints]) (by simp[kC,gp]) (uq _)
end Go.Proofs.YtjlnoogcggdhkaaGreatDoor
namespace Go.Proofs.YtjlnoogcggdhkaaGreatDoor
open Go.Proofs.Tryz
open Go.VS
set_option linter.all false
attribute [local irreducible] bj au aS
theorem ve(a:List UInt8)(h:a.length=16):(kC a).length=35:=by simp[kC,h]
end Go.Proofs.YtjlnoogcggdhkaaGreatDoor
namespace Go.Proofs.YtjlnoogcggdhkaaGreatDoor
open Go.Proofs.Tryz
open Go.VS
set_option linter.all false
attribute [local irreducible] bj au aS bz
theorem lK(l:List UInt8)(hl:l.length≤4611686018427387904):ao prog 103 [.str l] (j6 l):=by
 refine ah func103 rfl call103 ?_ ?_
 rotate_left 1
 refine af (s':=(.str l:V)::zJ 48) rfl ?_;dsimp only[zJ]
 repeat' (first|refine Zq ?_|refine Zt ?_|(refine Zk 2 [] ?_;refine Zl ?_)|(refine Yb rfl ?_ ?_<;>intro ab<;>(try simp at ab)<;>try exact dc))
 ·simp[j6,show l.length≠16 by omega]
  exact .pure (by simp)
 ·have gp:l.length=16:=by omega
  refine aV (fun i=>(zN 2 (zS 2 (some (V.av 0 0 (2*i) 1)::some (V.int .i64 (jc (l.take i)))::some (V.int .i64 i)::zS 42 []))))
   (fun i=> [.live (ints (ji (l.take i)))]) l.length ?_ fun i hi KL hL=>?_
  ·dsimp only[aE,zN,zS]
   exact Le.mk [none] (by simp[jc]) (aZ (by simp) (by simp[ae,ji,ints])) (by simp)
  ·dsimp only[aE,zN,zS]
   rcases apQ i l.length with hi|hi
   ·have bZ:(l[i]).toNat<256:=aqk _
    have kF:List.take (2*i) (ints (ji (l.take i)))=ints (ji (l.take i)):=apR (by simp;omega)
    have hs:=k9 (l.take i)
    have oq:(l.take i).length=i:=by simp;omega
    have ht:l.take (i+1)=l.take i++[l[i]]:=by simp
    have wV:jc (l.take (i+1))=jc (l.take i)+(30-((l[i]).toNat:Int)/16-((l[i]).toNat:Int)%16):=by rw[ht,Dm]
    have Ts:ints (ji (l.take (i+1)))=ints (ji (l.take i))++[.int .i64 (((l[i]).toNat:Int)/16),.int .i64 (((l[i]).toNat:Int)%16)]:=by rw[ht,Gj];simp[ints]
    repeat' (first|refine Z0 kF ?_|refine Zt ?_|(refine Zk 2 [] ?_;refine Zl ?_)|(refine Yb rfl ?_ ?_<;>intro ab<;>(try simp at ab)<;>try exact dc))
    refine hL _ _ hi (Le.mk [some 4] (by dsimp only[aE,zN,zS];simp[wV];omega) (aZ (by simp) (by
     simp[ae,Ts]
     exact(qn (by simp;exact fun x hx=>by rcases hx with hx|rfl|rfl<;>first|exact uq _ _ hx|exact .int)).2 trivial)) (by simp))
   ·obtain rfl:i=l.length:=by omega
    have hs:=k9 l
    have kF:List.take (2*l.length) (ints (ji l))=ints (ji l):=apR (by simp)
    simp only[ari]
    repeat' (first|refine Z0 kF ?_|refine Zt ?_|(refine Zk 2 [] ?_;refine Zl ?_)|(refine Yb rfl ?_ ?_<;>intro ab<;>(try simp at ab)<;>try exact dc))
    simp
    rw[j6,if_pos gp]
    refine IG ⟨?_,.pure .int,trivial⟩
    rw[gp]
    exact bK (by simp[kC];simp[ints]) (by simp[kC,gp]) (uq _)
 ·unfold j6;split<;>simp
end Go.Proofs.YtjlnoogcggdhkaaGreatDoor
namespace Go.Proofs.YtjlnoogcggdhkaaGreatDoor
open Go.Proofs.Tryz
open Go.VS
set_option linter.all false
attribute [local irreducible] bj au aS bz
def bk(l:List Int):List V:=l.map (V.int .u32)
@[simp] theorem abr(l:List Int):(bk l).length=l.length:=by simp[bk]
@[simp] theorem jz(l:List Int): ∀x∈bk l,x.Pure:=by
 intro x hx
 obtain⟨n,-,rfl⟩:=aqd.1 hx
 exact .int
@[simp] theorem w8(l:List Int):bf (bk l):=jz l
@[simp] theorem afA(l:List Int): ∀x∈bk l,x.one=true:=by
 intro x hx
 obtain⟨n,-,rfl⟩:=aqd.1 hx
 rfl
theorem yX(l:List Int):(V.agg (bk l)).Flat:=.agg fun x hx=>by
 obtain⟨n,-,rfl⟩:=aqd.1 hx
 exact .int
def gZ(n:Int):Int:=IntKind.u32.wrap n
def uu(x:Int)(n:Nat):Int:=bits .or .u32 (x/2^n) (gZ (x*2^(32-n)))
def kL:List Int:=[1116352408,1899447441,3049323471,3921009573,961987163,1508970993,2453635748,2870763221,3624381080,310598401,607225278,1426881987,1925078388,2162078206,2614888103,3248222580,3835390401,4022224774,264347078,604807628,770255983,1249150122,1555081692,1996064986,2554220882,2821834349,2952996808,3210313671,3336571891,3584528711,113926993,338241895,666307205,773529912,1294757372,1396182291,1695183700,1986661051,2177026350,2456956037,2730485921,2820302411,3259730800,3345764771,3516065817,3600352804,4094571909,275423344,430227734,506948616,659060556,883997877,958139571,1322822218,1537002063,1747873779,1955562222,2024104815,2227730452,2361852424,2428436474,2756734187,3204031479,3329325298]
def uj:List Int:=[1779033703,3144134277,1013904242,2773480762,1359893119,2600822924,528734635,1541459225]
@[simp] theorem ac7:kL.length=64:=by simp[kL]
@[simp] theorem abW:uj.length=8:=by simp[uj]
theorem Gm(x n:Int)(h0:0≤n)(h1:n≤32):ao prog 288 [.int .u32 x,.int .u64 n] (.int .u32 (uu x n.toNat)):=by
 refine ah func288 rfl call288 ?_ ?_
 rotate_left 1
 refine af (s':=(.int .u32 x:V)::(.int .u64 n:V)::zJ 11) rfl ?_;dsimp only[zJ]
 repeat' (first|refine Zq ?_|refine Zt ?_|fail)
 ·simp[uu,gZ]
  rw[show(32-n).toNat=32-n.toNat by omega]
  exact .pure .int
 ·exact .int
theorem LQ:ao prog 289 [] (.agg (bk kL)):=by
 refine ah func289 rfl call289 ?_ ?_
 rotate_left 1
 refine af (s':=[.aa,.aa]) rfl ?_
 repeat' (first|refine Zq ?_|refine Zt ?_|fail)
 ·simp[bk,kL]
  exact .pure (by simp)
 ·exact .agg (jz _)
theorem j7:ao prog 267 [] (.agg (bk uj)):=by
 refine ah func267 rfl call267 ?_ ?_
 rotate_left 1
 refine af (s':=[.aa,.aa]) rfl ?_
 repeat' (first|refine Zq ?_|refine Zt ?_|fail)
 ·simp[bk,uj]
  exact .pure (by simp)
 ·exact .agg (jz _)
end Go.Proofs.YtjlnoogcggdhkaaGreatDoor
namespace Go.Proofs.YtjlnoogcggdhkaaGreatDoor
open Go.Proofs.Tryz
open Go.VS
set_option linter.all false
attribute [local irreducible] bj au aS bz
def rv(b:List UInt8)(i:Nat):Int:=((b.getD i 0).toNat:Int)
def iS(l:List Int)(i:Nat):Int:=l.getD i 0
theorem Qx(b:List UInt8)(i:Nat):0≤rv b i∧rv b i<256:=by
 have:(b.getD i 0).toNat<256:=aqk _
 unfold rv;omega
@[simp] theorem Tt(b:List UInt8)(i:Nat):IntKind.u32.wrap (rv b i)=rv b i:=wrap_u32 (Qx b i).1 (by have:=Qx b i;omega)
@[simp] theorem ahi(n:Int):IntKind.u32.wrap n=gZ n:=rfl
theorem YF(n:Int):gZ n=n%4294967296:=by simp[gZ,IntKind.wrap,IntKind.signed,IntKind.bits]
@[simp] theorem ahj(b:List UInt8)(i:Nat):gZ (rv b i)=rv b i:=Tt b i
def YG(b:List UInt8)(i:Nat):Int:=
 bits .or .u32 (bits .or .u32 (bits .or .u32 (gZ (rv b (4*i)*16777216)) (gZ (rv b (4*i+1)*65536))) (gZ (rv b (4*i+2)*256))) (rv b (4*i+3))
def wA(b:List UInt8):Nat→List Int
 |0=>List.replicate 64 0
 |i+1=>(wA b i).set i (YG b i)
def Tu(x:Int):Int:=bits .xor .u32 (bits .xor .u32 (uu x 7) (uu x 18)) (x/2^3)
def Tv(x:Int):Int:=bits .xor .u32 (bits .xor .u32 (uu x 17) (uu x 19)) (x/2^10)
def wB(b:List UInt8):Nat→List Int
 |0=>wA b 16
 |i+1=>(wB b i).set (i+16) (gZ (gZ (gZ (iS (wB b i) i+Tu (iS (wB b i) (i+1)))+iS (wB b i) (i+9))+Tv (iS (wB b i) (i+14))))
@[simp] theorem ac8(b:List UInt8)(i:Nat):(wA b i).length=64:=by
 induction i with
 |zero=>simp[wA]
 |succ i ih=>simp[wA,ih]
@[simp] theorem ac9(b:List UInt8)(i:Nat):(wB b i).length=64:=by
 induction i with
 |zero=>simp[wB]
 |succ i ih=>simp[wB,ih]
def Tw(e:Int):Int:=bits .xor .u32 (bits .xor .u32 (uu e 6) (uu e 11)) (uu e 25)
def Tx(a:Int):Int:=bits .xor .u32 (bits .xor .u32 (uu a 2) (uu a 13)) (uu a 22)
def YH(e f g:Int):Int:=bits .xor .u32 (bits .and .u32 e f) (bits .and .u32 (bits .xor .u32 4294967295 e) g)
def YI(a b c:Int):Int:=bits .xor .u32 (bits .xor .u32 (bits .and .u32 a b) (bits .and .u32 a c)) (bits .and .u32 b c)
def Od(e f g h k w:Int):Int:=gZ (gZ (gZ (gZ (h+Tw e)+YH e f g)+k)+w)
def IH(k w:Int):List Int→List Int
 |[a,b,c,d,e,f,g,h]=> [gZ (gZ (Od e f g h k w+Tx a)+YI a b c),a,b,c,gZ (d+Od e f g h k w),e,f,g]
 |l=>l
def lM(h W:List Int):Nat→List Int
 |0=>h
 |i+1=>IH (iS kL i) (iS W i) (lM h W i)
theorem Oe{l:List Int}(h:l.length=8): ∃a b c d e f g i,l=[a,b,c,d,e,f,g,i]:=by
 match l,h with
 |[a,b,c,d,e,f,g,i],_=>exact⟨a,b,c,d,e,f,g,i,rfl⟩
theorem Of(k w:Int)(l:List Int):(IH k w l).length=l.length:=by
 unfold IH;split<;>rfl
@[simp] theorem abX(h W:List Int)(i:Nat):(lM h W i).length=h.length:=by
 induction i with
 |zero=>rfl
 |succ i ih=>rw[lM,Of,ih]
def fin(h:List Int)(v:List Int):Nat→List Int
 |0=>v
 |i+1=>(fin h v i).set i (gZ (iS (fin h v i) i+iS h i))
@[simp] theorem abY(h v:List Int)(i:Nat):(fin h v i).length=v.length:=by
 induction i with
 |zero=>rfl
 |succ i ih=>simp[fin,ih]
def II(h:List Int)(b:List UInt8):List Int:=fin h (lM h (wB b 48) 64) 8
@[simp] theorem abZ(h:List Int)(b:List UInt8):(II h b).length=h.length:=by simp[II]
theorem pV(l:List Int)(i:Nat)(h:i<l.length):(bk l)[i]?=some (.int .u32 (iS l i)):=by
 simp[bk,iS,h]
@[simp] theorem YJ(l:List Int)(i:Nat)(h:i<(bk l).length):(bk l)[i]=.int .u32 (iS l i):=by
 have:=pV l i (by simpa using h)
 rw[ap5 h]at this
 simpa using this
theorem sV(l:List Int)(i:Nat)(n:Int):bk (l.set i n)=(bk l).set i (.int .u32 n):=by simp[bk]
theorem Qy(b:List UInt8)(i:Nat)(h:i<b.length):(b.map aF)[i]?=some (.int .u8 (rv b i)):=by
 simp[h,aF,rv]
set_option maxRecDepth 100000 in
set_option maxHeartbeats 4000000 in
theorem xc(h:List Int)(b:List UInt8)(hh:h.length=8)(hb:b.length=64):ao prog 268 [.agg (bk h),.sl 64 (b.map aF)] (.agg (bk (II h b))):=by
 obtain⟨B,hB,hBg⟩: ∃B,B=b.map aF∧ ∀j,j<64→B[j]?=some (.int .u8 (rv b j)):=⟨_,rfl,fun j hj=>Qy b j (by omega)⟩
 rw[←hB]
 refine ah func268 rfl call268 ?_ ?_
 rotate_left 1
 refine af (s':=(.agg (bk h):V)::(.sl 64 B:V)::zJ 215) rfl ?_;dsimp only[zJ]
 repeat' (first|refine Z0 hh ?_|refine Zt ?_|((first|refine Zk 0 [] ?_|refine Zk 4 [] ?_);refine Zl ?_)|(refine Yb rfl ?_ ?_<;>intro ab<;>(try simp at ab)<;>try exact dc))
 ·refine aV (fun i=>(some V.aa::zN 5 (some (V.int .i64 i)::zS 210 []))) (fun i=> [.live (bk h),.live (bk (List.replicate 8 0)),.live (bk (wA b i))]) 16 ?_ fun i hi KL hL=>?_
  ·dsimp only[aE,zN,zS]
   exact Yr [some 0,some 1,some 2] (by simp[ae,wA,bk,List.replicate])
  ·dsimp only[aE,zN,zS]
   rcases apQ i 16 with hi|hi
   ·have e0:(4*(i:Int)).toNat=4*i:=by omega
    have e1:(4*(i:Int)+1).toNat=4*i+1:=by omega
    have e2:(4*(i:Int)+2).toNat=4*i+2:=by omega
    have e3:(4*(i:Int)+3).toNat=4*i+3:=by omega
    repeat' (first|refine Z0 (Zj hBg (Zj e0 (Zj e1 (Zj e2 e3)))) ?_|refine Zt ?_|((first|refine Zk 0 [] ?_|refine Zk 4 [] ?_);refine Zl ?_)|(refine Yb rfl ?_ ?_<;>intro ab<;>(try simp at ab)<;>try exact dc))
    refine hL _ _ hi ?_
    exact Yr [some 0,some 1,some 2] (by simp[ae,wA,YG,←sV,qn])
   ·obtain rfl:i=16:=by omega
    repeat' (first|refine Zq ?_|refine Zt ?_|((first|refine Zk 0 [] ?_|refine Zk 4 [] ?_);refine Zl ?_)|(refine Yb rfl ?_ ?_<;>intro ab<;>(try simp at ab)<;>try exact dc))
    refine aV (fun i=>(zS 2 (zN 4 (some V.aa::some (V.int .i64 (i+16))::zS 209 [])))) (fun i=> [.live (bk h),.live (bk (List.replicate 8 0)),.live (bk (wB b i))]) 48 ?_ fun i hi KL hL=>?_
    ·dsimp only[aE,zN,zS]
     exact Yr [some 0,some 1,some 2] (by simp[ae,wB,bk,List.replicate])
    ·dsimp only[aE,zN,zS]
     rcases apQ i 48 with hi|hi
     ·have e0:((i:Int)+16-15).toNat=i+1:=by omega
      have e1:((i:Int)+16-2).toNat=i+14:=by omega
      have e2:((i:Int)+16-16).toNat=i:=by omega
      have e3:((i:Int)+16-7).toNat=i+9:=by omega
      have e4:((i:Int)+16).toNat=i+16:=by omega
      repeat' (first|(refine Zu ?_;intro K9 h9;simp(disch:=first|exact dd|fail) [pV,e0,e1,e2,e3,e4];refine Zm ?_;((first|refine Ap (Gm _ _ (by omega) (by omega)) ?_|skip)<;>(refine Zf h9 ?_;clear h9 K9)))|refine Zt ?_|((first|refine Zk 0 [] ?_|refine Zk 4 [] ?_);refine Zl ?_)|(refine Yb rfl ?_ ?_<;>intro ab<;>(try simp at ab)<;>try exact dc))
      refine hL _ _ hi ?_
      exact Yr [some 0,some 1,some 2] (by simp[ae,wB,Tu,Tv,←sV,List.replicate])
     ·obtain rfl:i=48:=by omega
      repeat' (first|(refine Zu ?_;intro K9 h9;simp(disch:=first|exact dd|fail) [hh,eC,apR];refine Zm ?_;((first|refine Ap LQ ?_|skip)<;>((repeat(refine And.intro (by first|omega|(simp[bk,hh];first|done|omega)|assumption|(intro e9;have e8:=congrArg List.length e9;first|(simp[bk,hh]at e8;done)|((try simp only[aqz,aqa]at e8);rw[aqh]at e8;omega))) ?_));(first|refine h9 _ _ (Ys ?_)|refine h9 _ _ (Yt ?_));clear h9 K9)))|refine Zt ?_|((first|refine Zk 0 [] ?_|refine Zk 4 [] ?_);refine Zl ?_)|(refine Yb rfl ?_ ?_<;>intro ab<;>(try simp at ab)<;>try exact dc))
      refine aV (fun i=>(zS 2 (zN 4 (zS 4 (zN 2 (some (V.int .i64 i)::zS 204 []))))))
       (fun i=> [.live (bk h),.live (bk (List.replicate 8 0)),.live (bk (wB b 48)),.live (bk kL),.live (bk (lM h (wB b 48) i))]) 64 ?_ fun i hi KL hL=>?_
      ·dsimp only[aE,zN,zS]
       exact Yr [some 0,some 1,some 2,some 3,some 4] (by simp[ae,lM,bk,List.replicate])
      ·dsimp only[aE,zN,zS]
       rcases apQ i 64 with hi|hi
       ·obtain⟨v0,v1,v2,v3,v4,v5,v6,v7,hv⟩:=Oe (l:=lM h (wB b 48) i) (by simp[hh])
        have Qz:lM h (wB b 48) (i+1)=IH (iS kL i) (iS (wB b 48) i) [v0,v1,v2,v3,v4,v5,v6,v7]:=by rw[lM,hv]
        rw[hv]
        rw[show bk [v0,v1,v2,v3,v4,v5,v6,v7]=[.int .u32 v0,.int .u32 v1,.int .u32 v2,.int .u32 v3,.int .u32 v4,.int .u32 v5,.int .u32 v6,.int .u32 v7]from rfl]
        repeat' (first|(refine Zu ?_;intro K9 h9;simp(disch:=first|exact dd|fail) [pV,show(if IntKind.u32.signed=true then-1 else IntKind.u32.max)=4294967295 from rfl];refine Zm ?_;((first|refine Ap (Gm _ _ (by omega) (by omega)) ?_|skip)<;>(refine Zf h9 ?_;clear h9 K9)))|refine Zt ?_|((first|refine Zk 0 [] ?_|refine Zk 4 [] ?_);refine Zl ?_)|(refine Yb rfl ?_ ?_<;>intro ab<;>(try simp at ab)<;>try exact dc))
        refine hL _ _ hi ?_
        exact Yr [some 0,some 1,some 2,some 3,some 4] (by simp[ae,Qz,IH,Od,Tw,Tx,YH,YI,List.replicate,bk])
       ·obtain rfl:i=64:=by omega
        generalize hV:lM h (wB b 48) 64=v
        have hv:v.length=8:=by rw[←hV];simp[hh]
        repeat' (first|refine Z0 (Zj hh (Zj hv @apR.{0})) ?_|refine Zt ?_|((first|refine Zk 0 [] ?_|refine Zk 4 [] ?_);refine Zl ?_)|(refine Yb rfl ?_ ?_<;>intro ab<;>(try simp at ab)<;>try exact dc))
        refine aV (fun i=>(zS 2 (zN 3 (zS 6 (some (V.ref 2 0)::zS 192 (some (V.int .i64 i)::zS 12 []))))))
         (fun i=> [.live (bk h),.live (bk (List.replicate 8 0)),.live (bk (fin h v i))]) 8 ?_ fun i hi KL hL=>?_
        ·dsimp only[aE,zN,zS]
         exact Yr [some 0,some 1,some 4] (by simp[ae,fin,bk,List.replicate])
        ·dsimp only[aE,zN,zS]
         rcases apQ i 8 with hi|hi
         ·repeat' (first|(refine Zu ?_;intro K9 h9;simp(disch:=first|exact dd|fail) [pV,hh,hv];refine Zm ?_;((repeat(refine And.intro (by first|omega|(simp[bk,hh,hv];first|done|omega)|assumption|(intro e9;have e8:=congrArg List.length e9;first|(simp[bk,hh,hv]at e8;done)|((try simp only[aqz,aqa]at e8);rw[aqh]at e8;omega))) ?_));(first|refine h9 _ _ (Ys ?_)|refine h9 _ _ (Yt ?_));clear h9 K9))|refine Zt ?_|((first|refine Zk 0 [] ?_|refine Zk 4 [] ?_);refine Zl ?_)|(refine Yb rfl ?_ ?_<;>intro ab<;>(try simp at ab)<;>try exact dc))
          refine hL _ _ hi ?_
          exact Yr [some 0,some 1,some 2] (by simp[ae,fin,List.replicate,←sV])
         ·obtain rfl:i=8:=by omega
          repeat' (first|(refine Zu ?_;intro K9 h9;simp(disch:=first|exact dd|fail) [hh,hv,apR,eC];refine Zm ?_;((repeat(refine And.intro (by first|omega|(simp[bk,hh,hv];first|done|omega)|assumption|(intro e9;have e8:=congrArg List.length e9;first|(simp[bk,hh,hv]at e8;done)|((try simp only[aqz,aqa]at e8);rw[aqh]at e8;omega))) ?_));(first|refine h9 _ _ (Ys ?_)|refine h9 _ _ (Yt ?_));clear h9 K9))|refine Zt ?_|((first|refine Zk 0 [] ?_|refine Zk 4 [] ?_);refine Zl ?_)|(refine Yb rfl ?_ ?_<;>intro ab<;>(try simp at ab)<;>try exact dc))
          simp[hh,hv,apR]
          refine⟨fun e=>by have:=congrArg List.length e;simp[hv]at this,?_⟩
          rw[II,hV]
          exact .pure (.agg (jz _))
 ·exact .agg (jz _)
end Go.Proofs.YtjlnoogcggdhkaaGreatDoor
namespace Go.Proofs.YtjlnoogcggdhkaaGreatDoor
open Go.Proofs.Tryz
open Go.VS
set_option linter.all false
attribute [local irreducible] bj au aS bz
theorem YK(b:List UInt8)(i:Nat)(h:i<b.length):(((b[i]'h).toNat:Nat):Int)=rv b i:=by simp[rv,h]
theorem QA(t u m:Int):gZ (t+gZ (u+m))=gZ (gZ (t+u)+m):=by simp only[YF];omega
theorem Ty(t u:Int):gZ (t+u)=gZ (u+t):=by rw[Int.add_comm]
theorem Wp(l:List Int)(i:Nat)(h:i<l.length):l[i]=iS l i:=by simp[iS,h]
theorem afB(a0 a1 a2 a3 a4 a5 a6 a7 v0 v1 v2 v3 v4 v5 v6 v7:Int):fin [a0,a1,a2,a3,a4,a5,a6,a7] [v0,v1,v2,v3,v4,v5,v6,v7] 8=
  [gZ (v0+a0),gZ (v1+a1),gZ (v2+a2),gZ (v3+a3),gZ (v4+a4),gZ (v5+a5),gZ (v6+a6),gZ (v7+a7)]:=by
 simp[fin,iS]
set_option maxRecDepth 100000 in
set_option maxHeartbeats 4000000 in
theorem LH(h:List Int)(b:List UInt8)(hh:h.length=8)(hb:b.length=64):ao prog 154 [.sl 8 (bk h),.str b] (.sl 8 (bk (II h b))):=by
 refine ah func154 rfl call154 ?_ ?_
 rotate_left 1
 refine af (s':=(.sl 8 (bk h):V)::(.str b:V)::zJ 264) rfl ?_;dsimp only[zJ]
 repeat' (first|refine Zq ?_|refine Zt ?_|((first|refine Zk 0 [] ?_|refine Zk 1 [] ?_|refine Zk 4 [] ?_);refine Zl ?_)|(refine Yb rfl ?_ ?_<;>intro ab<;>(try simp at ab)<;>try exact dc))
 ·refine aV (fun i=>(zN 4 (some V.aa::zN 2 (some (V.int .i64 i)::zS 258 [])))) (fun i=> [.live (bk kL),.live (bk (wA b i))]) 16 ?_ fun i hi KL hL=>?_
  ·dsimp only[aE,zN,zS]
   exact Yr [some 0,some 1] (by simp[ae,wA,bk,List.replicate,kL])
  ·dsimp only[aE,zN,zS]
   rcases apQ i 16 with hi|hi
   ·have e0:(4*(i:Int)).toNat=4*i:=by omega
    have e1:(4*(i:Int)+1).toNat=4*i+1:=by omega
    have e2:(4*(i:Int)+2).toNat=4*i+2:=by omega
    have e3:(4*(i:Int)+3).toNat=4*i+3:=by omega
    repeat' (first|refine Z0 (Zj hb (Zj @YK (Zj e0 (Zj e1 (Zj e2 e3))))) ?_|refine Zt ?_|((first|refine Zk 0 [] ?_|refine Zk 1 [] ?_|refine Zk 4 [] ?_);refine Zl ?_)|(refine Yb rfl ?_ ?_<;>intro ab<;>(try simp at ab)<;>try exact dc))
    refine hL _ _ hi ?_
    exact Yr [some 0,some 1] (by simp[ae,wA,YG,←sV])
   ·obtain rfl:i=16:=by omega
    repeat' (first|refine Zq ?_|refine Zt ?_|((first|refine Zk 0 [] ?_|refine Zk 1 [] ?_|refine Zk 4 [] ?_);refine Zl ?_)|(refine Yb rfl ?_ ?_<;>intro ab<;>(try simp at ab)<;>try exact dc))
    refine aV (fun i=>(none::some V.aa::zN 2 (some V.aa::zN 2 (some V.aa::some (V.int .i64 (i+16))::zS 257 [])))) (fun i=> [.live (bk kL),.live (bk (wB b i))]) 48 ?_ fun i hi KL hL=>?_
    ·dsimp only[aE,zN,zS]
     exact Yr [some 0,some 1] (by simp[ae,wB])
    ·dsimp only[aE,zN,zS]
     rcases apQ i 48 with hi|hi
     ·have e0:((i:Int)+16-15).toNat=i+1:=by omega
      have e1:((i:Int)+16-2).toNat=i+14:=by omega
      have e2:((i:Int)+16-16).toNat=i:=by omega
      have e3:((i:Int)+16-7).toNat=i+9:=by omega
      have e4:((i:Int)+16).toNat=i+16:=by omega
      repeat' (first|refine Z0 (Zj @pV (Zj e0 (Zj e1 (Zj e2 (Zj e3 e4))))) ?_|refine Zt ?_|((first|refine Zk 0 [] ?_|refine Zk 1 [] ?_|refine Zk 4 [] ?_);refine Zl ?_)|(refine Yb rfl ?_ ?_<;>intro ab<;>(try simp at ab)<;>try exact dc))
      refine hL _ _ hi ?_
      exact Yr [some 0,some 1] (by simp[ae,wB,Tu,Tv,uu,←sV,List.replicate])
     ·obtain rfl:i=48:=by omega
      obtain⟨a0,a1,a2,a3,a4,a5,a6,a7,rfl⟩:=Oe hh
      rw[show bk [a0,a1,a2,a3,a4,a5,a6,a7]=[.int .u32 a0,.int .u32 a1,.int .u32 a2,.int .u32 a3,.int .u32 a4,.int .u32 a5,.int .u32 a6,.int .u32 a7]from rfl]
      repeat' (first|refine Zq ?_|refine Zt ?_|((first|refine Zk 0 [] ?_|refine Zk 1 [] ?_|refine Zk 4 [] ?_);refine Zl ?_)|(refine Yb rfl ?_ ?_<;>intro ab<;>(try simp at ab)<;>try exact dc))
      refine aV (fun i=>(none::some V.aa::zN 2 (some V.aa::zN 2 (zS 6 (some (V.int .u32 (iS (lM [a0,a1,a2,a3,a4,a5,a6,a7] (wB b 48) i) 0))::some (V.int .u32 (iS (lM [a0,a1,a2,a3,a4,a5,a6,a7] (wB b 48) i) 1))::some (V.int .u32 (iS (lM [a0,a1,a2,a3,a4,a5,a6,a7] (wB b 48) i) 2))::some (V.int .u32 (iS (lM [a0,a1,a2,a3,a4,a5,a6,a7] (wB b 48) i) 3))::some (V.int .u32 (iS (lM [a0,a1,a2,a3,a4,a5,a6,a7] (wB b 48) i) 4))::some (V.int .u32 (iS (lM [a0,a1,a2,a3,a4,a5,a6,a7] (wB b 48) i) 5))::some (V.int .u32 (iS (lM [a0,a1,a2,a3,a4,a5,a6,a7] (wB b 48) i) 6))::some (V.int .u32 (iS (lM [a0,a1,a2,a3,a4,a5,a6,a7] (wB b 48) i) 7))::some (V.int .i64 i)::zS 244 [])))))
       (fun i=> [.live (bk kL),.live (bk (wB b 48))]) 64 ?_ fun i hi KL hL=>?_
      ·dsimp only[aE,zN,zS]
       exact Le.mk [some 0,some 1] (by simp[lM,iS]) (aZ (by simp) (by simp[ae])) (by simp)
      ·dsimp only[aE,zN,zS]
       rcases apQ i 64 with hi|hi
       ·obtain⟨v0,v1,v2,v3,v4,v5,v6,v7,hv⟩:=Oe (l:=lM [a0,a1,a2,a3,a4,a5,a6,a7] (wB b 48) i) (by simp)
        have Qz:lM [a0,a1,a2,a3,a4,a5,a6,a7] (wB b 48) (i+1)=IH (iS kL i) (iS (wB b 48) i) [v0,v1,v2,v3,v4,v5,v6,v7]:=by rw[lM,hv]
        rw[hv]
        simp only[iS,arH,List.getD_cons_succ]
        repeat' (first|(refine Zu ?_;intro K9 h9;simp(disch:=first|exact dd|fail) [pV,show(if IntKind.u32.signed=true then-1 else IntKind.u32.max)=4294967295 from rfl];refine Zm ?_;refine Zf h9 ?_;clear h9 K9)|refine Zt ?_|((first|refine Zk 0 [] ?_|refine Zk 1 [] ?_|refine Zk 4 [] ?_);refine Zl ?_)|(refine Yb rfl ?_ ?_<;>intro ab<;>(try simp at ab)<;>try exact dc))
        refine hL _ _ hi ?_
        exact Le.mk [some 0,some 1] (by dsimp only[aE,zN,zS];rw[Qz];simp[IH,Od,Tw,Tx,YH,YI,uu,iS,QA]) (aZ (by simp) (by simp[ae])) (by simp)
       ·obtain rfl:i=64:=by omega
        obtain⟨v0,v1,v2,v3,v4,v5,v6,v7,hv⟩:=Oe (l:=lM [a0,a1,a2,a3,a4,a5,a6,a7] (wB b 48) 64) (by simp)
        rw[hv]
        simp only[iS,arH,List.getD_cons_succ]
        repeat' (first|refine Zq ?_|refine Zt ?_|((first|refine Zk 0 [] ?_|refine Zk 1 [] ?_|refine Zk 4 [] ?_);refine Zl ?_)|(refine Yb rfl ?_ ?_<;>intro ab<;>(try simp at ab)<;>try exact dc))
        simp[II,hv,afB,Ty]
        exact bK (by simp[bk]) (by simp) (jz _)
 ·exact .sl
end Go.Proofs.YtjlnoogcggdhkaaGreatDoor
namespace Go.Proofs.YtjlnoogcggdhkaaGreatDoor
open Go.Proofs.Tryz
open Go.VS
set_option linter.all false
attribute [local irreducible] bj au aS bz
def comp(h:List Int)(l:List UInt8):Nat→List Int
 |0=>h
 |k+1=>II (comp h l k) ((l.drop (64*k)).take 64)
@[simp] theorem abt(h:List Int)(l:List UInt8)(k:Nat):(comp h l k).length=h.length:=by
 induction k with
 |zero=>rfl
 |succ k ih=>simp[comp,ih]
theorem BA(h:List Int)(l m:List UInt8): ∀(k:Nat),64*k≤l.length→comp h (l++m) k=comp h l k
 |0,_=>rfl
 |k+1,hk=>by
  rw[comp,comp,BA h l m k (by omega),arf (by omega),are (by simp;omega)]
theorem IJ(h:List Int)(l:List UInt8)(j:Nat): ∀(k:Nat),comp (comp h l j) (l.drop (64*j)) k=comp h l (j+k)
 |0=>rfl
 |k+1=>by
  rw[comp,IJ h l j k,←aq8,comp,aq3,show 64*j+64*k=64*(j+k) by omega]
def Iy(h:List Int)(r:List UInt8)(n:Int):List V:=bk h++[.sl r.length (r.map aF),.int .i64 n]
def z8:List Int:=[0,0,0,0,0,0,0,0]
@[simp] theorem ada:z8.length=8:=by simp[z8]
def jx(l:List UInt8):List Int:=comp uj l (l.length/64)
def dp(l:List UInt8):List UInt8:=l.drop (64*(l.length/64))
def kA(l:List UInt8):List V:=Iy (if l=[]then z8 else jx l) (dp l) l.length
@[simp] theorem ab0(l:List UInt8):(jx l).length=8:=by simp[jx]
@[simp] theorem adb(h:List Int)(r:List UInt8)(n:Int):bf (Iy h r n):=by simp[Iy]
@[simp] theorem N6(l:List UInt8):bf (kA l):=by simp[kA]
theorem Dp(l:List UInt8):(dp l).length=l.length%64:=by simp[dp];omega
theorem xd(l m:List UInt8):jx (l++m)=comp (jx l) (dp l++m) ((dp l++m).length/64):=by
 have h1:(l++m).length/64=l.length/64+(dp l++m).length/64:=by simp[dp];omega
 have h2:(l++m).drop (64*(l.length/64))=dp l++m:=by rw[arf (by omega)];rfl
 rw[jx,h1,←IJ,h2,BA uj l m _ (by omega)]
 rfl
theorem Dq(l m:List UInt8):dp (l++m)=(dp l++m).drop (64*((dp l++m).length/64)):=by
 have h1:(l++m).length/64=l.length/64+(dp l++m).length/64:=by simp[dp];omega
 have h2:(l++m).drop (64*(l.length/64))=dp l++m:=by rw[arf (by omega)];rfl
 rw[dp,h1,Nat.mul_add,←aq3,h2]
section
variable {h h' : List Int} {a b c : V} {tl : List V}
theorem dO(hh:h.length=8):(bk h++tl).take 8=bk h:=by
 rw[are (by simp[hh]),apR (by simp[hh])]
theorem jo(hh:h.length=8):(bk h++(a::tl))[8]?=some a:=by
 rw[aqL (by simp[hh])];simp[hh]
theorem jq(hh:h.length=8):(bk h++(a::b::tl))[9]?=some b:=by
 rw[aqL (by simp[hh])];simp[hh]
theorem lb(hh:h.length=8):(bk h++(a::tl)).set 8 c=bk h++(c::tl):=by
 rw[arl _ _ (by simp[hh])];simp[hh]
theorem si(hh:h.length=8):(bk h++(a::b::tl)).set 9 c=bk h++(a::c::tl):=by
 rw[arl _ _ (by simp[hh])];simp[hh]
theorem eS(hh:h.length=8)(hh':h'.length=8):eB (bk h++tl) 0 (bk h')=bk h'++tl:=by
 rw[E0 (by simp[hh,hh'])]
 simp[hh',arZ,hh]
end
theorem yY{id:Nat}{cs l:List V}(h:bf l):l.map (fz id cs)=l:=by
 conv=>rhs;rw[←List.map_id l]
 exact arI fun x hx=>sf (h x hx)
theorem N4:Da prog 226 [] (kA []):=by
 refine Db func226 rfl call226 ?_
 refine af (s':=zJ 3) rfl ?_;dsimp only[zJ]
 refine b8 fun K hK=>?_
 refine dg ?_
 iterate 1 (first|(refine dX ?_ ?_;(focus (simp;done));dsimp only[aD,sset])|(refine dn (by simp;done) fun K9 h9=>?_;simp;refine h9 _ _ ?_;clear h9 K9;dsimp only[aD,sset]))
 refine ed ?_
 refine hK _ _ ?_;clear hK K
 refine b8 fun K hK=>?_
 refine dg ?_
 iterate 3 (first|(refine dX ?_ ?_;(focus (simp;done));dsimp only[aD,sset])|(refine dn (by simp;done) fun K9 h9=>?_;simp;refine h9 _ _ ?_;clear h9 K9;dsimp only[aD,sset]))
 refine ed ?_
 refine hK _ _ ?_;clear hK K
 refine Qc ?_
 refine pT ?_
 refine C4 ?_
 simp[Ax,nz,kA,Iy,dp,z8,bk]
set_option maxRecDepth 100000 in
set_option maxHeartbeats 4000000 in
theorem N5(l b:List UInt8)(hb:l.length+b.length≤1099511627776):tZ prog 227 [.ref 0 0,.str b] (kA l) (kA (l++b)) (.aB []):=by
 refine C7 func227 rfl call227 ?_ ?_ ?_
 rotate_left 2
 refine af (s':=(.ref 0 0:V)::(.str b:V)::zJ 54) rfl ?_;dsimp only[zJ]
 have hr:=Dp l
 by_cases MS:b=[]
 ·subst MS
  repeat' (first|refine Zr ?_|refine Zt ?_|(refine Zk 0 [] ?_;refine Zl ?_)|(refine Yb rfl ?_ ?_<;>intro ab<;>(try simp at ab)<;>try exact dc)|refine Zo ?_|fail)
  ·simp
   exact .inl ⟨[],rfl⟩
 obtain⟨al,ry⟩: ∃al,al=dp l++b:=⟨_,rfl⟩
 have hall:al.length=(dp l).length+b.length:=by simp[ry]
 have YL:0<b.length:=aqj.2 MS
 have oq:List.take (dp l).length (List.map aF (dp l))=List.map aF (dp l):=apR (by simp)
 by_cases hl:l=[]
 ·have e0:uj=jx l:=by subst hl;rfl
  rw[show kA l=bk z8++[.sl (dp l).length ((dp l).map aF),.int .i64 l.length] by rw[kA,if_pos hl];rfl]
  repeat' (first|((first|refine Zu ?_|(refine Zv ?_ ?_;(focus (simp[jq,jo,dO,lb,si,eS,oq];done))));intro K9 h9;simp(disch:=first|exact dd|fail) [jq,jo,dO,lb,si,eS,oq];refine Zm ?_;((first|refine Ap j7 ?_|skip)<;>((repeat(refine And.intro (by first|omega|(simp[bk];first|done|omega)|assumption|(intro e9;have e8:=congrArg List.length e9;first|(simp[bk]at e8;done)|((try simp only[aqz,aqa]at e8);rw[aqh]at e8;omega))) ?_));(first|refine h9 _ _ (Ys ?_)|refine h9 _ _ (Yt ?_));clear h9 K9)))|refine Zt ?_|(refine Zk 0 [] ?_;refine Zl ?_)|(refine Yb rfl ?_ ?_<;>intro ab<;>(try simp at ab)<;>try exact dc)|refine Z6 (Zj @jq (Zj @jo (Zj @dO (Zj @lb (Zj @si (Zj @eS oq)))))) ?_|fail)
  rw[e0]
  refine aV (fun k=>(none::some V.aa::zN 2 (some (V.av 1 (64*k) (al.length-64*k) 1)::zS 51 [])))
   (fun k=> [.live (bk (comp (jx l) al k)++[.sl (dp l).length ((dp l).map aF),.int .i64 (l.length+b.length)]),.live (al.map aF)]) (al.length/64) ?_ fun k hk KL hL=>?_
  ·dsimp only[aE,zN,zS]
   exact Le.mk [some 0,some 2] (by simp[hall]) (aZ (by simp) (by simp[ae,comp,ry])) (by simp)
  ·dsimp only[aE,zN,zS]
   rcases apQ k (al.length/64)with hk|hk
   ·repeat' (first|((first|refine Zu ?_|(refine Zv ?_ ?_;(focus (simp[dO,eS];done))));intro K9 h9;simp(disch:=first|exact dd|fail) [dO,eS];refine Zm ?_;((first|refine aI (xc (comp (jx l) al k) ((al.drop (64*k)).take 64) (by simp) (by simp;omega)) ⟨.pure (.agg (jz _)),wX rfl (by omega) rfl,trivial⟩ (yX _) ?_|skip)<;>((repeat(refine And.intro (by first|omega|(simp[bk];first|done|omega)|assumption|(intro e9;have e8:=congrArg List.length e9;first|(simp[bk]at e8;done)|((try simp only[aqz,aqa]at e8);rw[aqh]at e8;omega))) ?_));(first|refine h9 _ _ (Ys ?_)|refine h9 _ _ (Yt ?_));clear h9 K9)))|refine Zt ?_|(refine Zk 0 [] ?_;refine Zl ?_)|(refine Yb rfl ?_ ?_<;>intro ab<;>(try simp at ab)<;>try exact dc)|refine Z6 (Zj @dO @eS) ?_|fail)
    refine hL _ _ hk ?_
    exact Yr [some 0,some 1] (by simp[ae,comp])
   ·obtain rfl:k=al.length/64:=by omega
    have gd:dp (l++b)=al.drop (64*(al.length/64)):=by rw[Dq,ry]
    have ie:al.length-64*(al.length/64)=(dp (l++b)).length:=by rw[gd];simp
    have YM:comp (jx l) al (al.length/64)=jx (l++b):=by rw[xd,ry]
    rw[YM,ie]
    have gq:List.take (dp (l++b)).length (List.drop (64*(al.length/64)) (List.map aF al))=List.map aF (dp (l++b)):=by
     rw[←ie,←arY,←arX,gd,apR (by simp)]
    have hle:(dp (l++b)).length≤al.length:=by omega
    repeat' (first|refine Z3 (Zj @dO (Zj @eS (Zj @lb gq))) ?_|refine Zt ?_|(refine Zk 0 [] ?_;refine Zl ?_)|(refine Yb rfl ?_ ?_<;>intro ab<;>(try simp at ab)<;>try exact dc)|refine Z6 (Zj @dO (Zj @eS (Zj @lb gq))) ?_|fail)
    simp
    refine MG 1 (cs:=List.map aF (dp (l++b))) (by simp) (by simp) ?_
    simp[kA,Iy,MS,fz,yY (w8 _),apR]
 ·rw[show kA l=bk (jx l)++[.sl (dp l).length ((dp l).map aF),.int .i64 l.length] by rw[kA,if_neg hl];rfl]
  repeat' (first|((first|refine Zu ?_|(refine Zv ?_ ?_;(focus (simp[jq,jo,dO,lb,si,eS,oq];done))));intro K9 h9;simp(disch:=first|exact dd|fail) [jq,jo,dO,lb,si,eS,oq];refine Zm ?_;((first|refine Ap j7 ?_|skip)<;>((repeat(refine And.intro (by first|omega|(simp[bk];first|done|omega)|assumption|(intro e9;have e8:=congrArg List.length e9;first|(simp[bk]at e8;done)|((try simp only[aqz,aqa]at e8);rw[aqh]at e8;omega))) ?_));(first|refine h9 _ _ (Ys ?_)|refine h9 _ _ (Yt ?_));clear h9 K9)))|refine Zt ?_|(refine Zk 0 [] ?_;refine Zl ?_)|(refine Yb rfl ?_ ?_<;>intro ab<;>(try simp at ab)<;>try exact dc)|refine Z6 (Zj @jq (Zj @jo (Zj @dO (Zj @lb (Zj @si (Zj @eS oq)))))) ?_|fail)
  refine aV (fun k=>(none::some V.aa::zN 2 (some (V.av 1 (64*k) (al.length-64*k) 1)::zS 51 [])))
   (fun k=> [.live (bk (comp (jx l) al k)++[.sl (dp l).length ((dp l).map aF),.int .i64 (l.length+b.length)]),.live (al.map aF)]) (al.length/64) ?_ fun k hk KL hL=>?_
  ·dsimp only[aE,zN,zS]
   exact Le.mk [some 0,some 2] (by simp[hall]) (aZ (by simp) (by simp[ae,comp,ry])) (by simp)
  ·dsimp only[aE,zN,zS]
   rcases apQ k (al.length/64)with hk|hk
   ·repeat' (first|((first|refine Zu ?_|(refine Zv ?_ ?_;(focus (simp[dO,eS];done))));intro K9 h9;simp(disch:=first|exact dd|fail) [dO,eS];refine Zm ?_;((first|refine aI (xc (comp (jx l) al k) ((al.drop (64*k)).take 64) (by simp) (by simp;omega)) ⟨.pure (.agg (jz _)),wX rfl (by omega) rfl,trivial⟩ (yX _) ?_|skip)<;>((repeat(refine And.intro (by first|omega|(simp[bk];first|done|omega)|assumption|(intro e9;have e8:=congrArg List.length e9;first|(simp[bk]at e8;done)|((try simp only[aqz,aqa]at e8);rw[aqh]at e8;omega))) ?_));(first|refine h9 _ _ (Ys ?_)|refine h9 _ _ (Yt ?_));clear h9 K9)))|refine Zt ?_|(refine Zk 0 [] ?_;refine Zl ?_)|(refine Yb rfl ?_ ?_<;>intro ab<;>(try simp at ab)<;>try exact dc)|refine Z6 (Zj @dO @eS) ?_|fail)
    refine hL _ _ hk ?_
    exact Yr [some 0,some 1] (by simp[ae,comp])
   ·obtain rfl:k=al.length/64:=by omega
    have gd:dp (l++b)=al.drop (64*(al.length/64)):=by rw[Dq,ry]
    have ie:al.length-64*(al.length/64)=(dp (l++b)).length:=by rw[gd];simp
    have YM:comp (jx l) al (al.length/64)=jx (l++b):=by rw[xd,ry]
    rw[YM,ie]
    have gq:List.take (dp (l++b)).length (List.drop (64*(al.length/64)) (List.map aF al))=List.map aF (dp (l++b)):=by
     rw[←ie,←arY,←arX,gd,apR (by simp)]
    have hle:(dp (l++b)).length≤al.length:=by omega
    repeat' (first|refine Z3 (Zj @dO (Zj @eS (Zj @lb gq))) ?_|refine Zt ?_|(refine Zk 0 [] ?_;refine Zl ?_)|(refine Yb rfl ?_ ?_<;>intro ab<;>(try simp at ab)<;>try exact dc)|refine Z6 (Zj @dO (Zj @eS (Zj @lb gq))) ?_|fail)
    simp
    refine MG 1 (cs:=List.map aF (dp (l++b))) (by simp) (by simp) ?_
    simp[kA,Iy,MS,fz,yY (w8 _),apR]
 ·exact .aB (by simp)
 ·simp
end Go.Proofs.YtjlnoogcggdhkaaGreatDoor
namespace Go.Proofs.YtjlnoogcggdhkaaGreatDoor
open Go.Proofs.Tryz
open Go.VS
set_option linter.all false
attribute [local irreducible] bj au aS bz
def Dh(n j:Nat):UInt8:=UInt8.ofNat (8*n/2^(8*(7-j)))
def fN(n:Nat):Nat:=(119-n%64)%64
def qY(n:Nat):List UInt8:=128::List.replicate (fN n) 0++(List.range 8).map (Dh n)
def cg(x:Int):List UInt8:=[UInt8.ofNat (x/16777216%256).toNat,UInt8.ofNat (x/65536%256).toNat,UInt8.ofNat (x/256%256).toNat,UInt8.ofNat (x%256).toNat]
def Iw(h:List Int):List UInt8:=h.flatMap cg
def gl(l:List UInt8):List UInt8:=Iw (jx (l++qY l.length))
theorem Bx(n:Nat):(qY n).length=9+fN n:=by simp[qY];omega
theorem Wi(n:Nat):(n+(qY n).length)%64=0:=by rw[Bx,fN];omega
def tz(l:List UInt8)(i:Nat):List UInt8:=dp l++128::List.replicate i 0
def te(l:List UInt8)(j:Nat):List UInt8:=tz l (fN l.length)++(List.range j).map (Dh l.length)
@[simp] theorem adf(l:List UInt8)(i:Nat):(tz l i).length=(dp l).length+1+i:=by simp[tz];omega
@[simp] theorem adg(l:List UInt8)(j:Nat):(te l j).length=(dp l).length+1+fN l.length+j:=by simp[te]
theorem Wr(l:List UInt8)(i:Nat):(tz l (i+1)).map aF=(tz l i).map aF++[.int .u8 0]:=by
 have:tz l (i+1)=tz l i++[0]:=by rw[tz,tz,List.replicate_succ',ap3];rfl
 rw[this,arn];rfl
theorem Ws(l:List UInt8)(j:Nat):(te l (j+1)).map aF=(te l j).map aF++[aF (Dh l.length j)]:=by simp[te,aqV]
theorem Wt(l:List UInt8):te l 0=tz l (fN l.length):=by simp[te]
theorem YN(l:List UInt8):te l 8=dp l++qY l.length:=by simp[te,tz,qY]
theorem cS{l:List UInt8}{n:Nat}(h:l.length≤n):List.take n (l.map aF)=l.map aF:=apR (by simpa using h)
theorem QB{n:Int}(h0:0≤n)(h1:n<256):V.int .u8 n=aF (UInt8.ofNat n.toNat):=by
 have:(UInt8.ofNat n.toNat).toNat=n.toNat:=by simp;omega
 simp only[aF,this,V.int.injEq,true_and]
 omega
theorem wrap_u8'(n:Int):IntKind.u8.wrap n=n%256:=by simp[IntKind.wrap,IntKind.signed,IntKind.bits]
theorem Qm(n:Int):V.int .u8 (IntKind.u8.wrap n)=aF (UInt8.ofNat (n%256).toNat):=by
 rw[wrap_u8',QB (by omega) (by omega)]
def ob(v:List Int)(i:Nat):List UInt8:=(v.take i).flatMap cg
theorem EZ(v:List Int)(i:Nat)(h:i<v.length):ob v (i+1)=ob v i++cg (iS v i):=by
 rw[ob,aqA h,List.flatMap_append,Wp v i h];simp[ob]
theorem oo(v:List Int): ∀i,i≤v.length→(ob v i).length=4*i
 |0,_=>rfl
 |i+1,h=>by rw[EZ v i (by omega),aqa,oo v i (by omega)];simp[cg];omega
theorem Ix(v:List Int)(i:Nat)(h:v.length≤i):ob v i=Iw v:=by rw[ob,apR h,Iw]
theorem MM(n j:Nat)(hj:j<8):V.int .u8 (IntKind.u8.wrap ((n:Int)*8/2^(8*(7-(j:Int))).toNat))=aF (Dh n j):=by
 have e:(8*(7-(j:Int))).toNat=8*(7-j):=by omega
 have h2:(n:Int)*8/2^(8*(7-j))=((8*n/2^(8*(7-j)):Nat):Int):=by
  rw[Int.natCast_ediv];simp[Int.mul_comm]
 rw[e,wrap_u8',h2,Dh,aF]
 simp
set_option maxRecDepth 100000 in
set_option maxHeartbeats 4000000 in
theorem Tn(l:List UInt8)(hl:l.length≤1099511627776)(x:V)(hx:x=.aL (kA l)∨x=.bR∧l=[]):ao prog 228 [x] (.str (gl l)):=by
 refine ah func228 rfl call228 ?_ ?_
 rotate_left 1
 refine af (s':=(x:V)::zJ 88) rfl ?_;dsimp only[zJ]
 have hr:=Dp l
 have rz:l≠ []→kA l=bk (jx l)++[.sl (dp l).length ((dp l).map aF),.int .i64 l.length]:=fun h=>by rw[kA,if_neg h];rfl
 iterate 22 (first|((first|refine Zu ?_|(refine Zv ?_ ?_;(focus (simp[eC];done))));intro K9 h9;simp(disch:=first|exact dd|fail) [eC];refine Zm ?_;((first|refine Ap j7 ?_|skip)<;>((repeat(refine And.intro (by first|omega|(simp[bk];first|done|omega)|assumption|(intro e9;have e8:=congrArg List.length e9;first|(simp[bk]at e8;done)|((try simp only[aqz,aqa]at e8);rw[aqh]at e8;omega))) ?_));(first|refine h9 _ _ (Ys ?_)|refine h9 _ _ (Yt ?_));clear h9 K9)))|refine Zt ?_|refine Y8 fun K hK=>?_|(apply hK;clear hK K)|(refine Zk 0 [] ?_;refine Zl ?_)|(refine Yb rfl ?_ ?_<;>intro ab<;>(try simp at ab)<;>try exact dc)|refine Z6 @eC ?_|refine Zx ?_|(clear hK K;first|(apply hK;clear hK K)|(clear hK K;first|(apply hK;clear hK K)|(clear hK K;first|(apply hK;clear hK K)|(clear hK K;apply hK;clear hK K)))))
 refine nU fun K hK hL=>?_
 have oq:List.take (dp l).length (List.map aF (dp l))=List.map aF (dp l):=apR (by simp)
 have main:K ((V.aa::V.aa::(V.str [])::(V.ref 0 0)::(V.av 1 0 (dp l).length 1)::(V.int .i64 l.length)::V.aa::V.aa::V.aa::V.aa::V.aa::V.aa::V.aa::V.aa::V.aa::V.aa::V.aa::V.aa::V.aa::V.aa::V.aa::V.aa::V.aa::V.aa::V.aa::V.aa::V.aa::V.aa::V.aa::V.aa::V.aa::V.aa::V.aa::V.aa::V.aa::V.aa::V.aa::V.aa::V.aa::V.aa::V.aa::V.aa::V.aa::V.aa::V.aa::V.aa::V.aa::V.aa::V.aa::V.aa::V.aa::V.aa::V.aa::V.aa::V.aa::V.aa::V.aa::V.aa::V.aa::V.aa::V.aa::V.aa::V.aa::V.aa::V.aa::V.aa::V.aa::V.aa::V.aa::V.aa::V.aa::V.aa::V.aa::V.aa::V.aa::V.aa::V.aa::V.aa::V.aa::V.aa::V.aa::V.aa::V.aa::V.aa::V.aa::V.aa::V.aa::V.aa::V.aa::[])) [.live (bk (jx l)),.live ((dp l).map aF)]:=by
  refine hK _ _ ?_
  clear hK hL K
  repeat' (first|refine Z3 oq ?_|refine Zt ?_|refine Y8 fun K hK=>?_|(apply hK;clear hK K)|(refine Zk 0 [] ?_;refine Zl ?_)|(refine Yb rfl ?_ ?_<;>intro ab<;>(try simp at ab)<;>try exact dc)|refine Z6 oq ?_|refine Zx ?_|clear hK K)
  have hz:fN l.length=(119-l.length%64)%64:=rfl
  refine aV (fun i=>(some V.aa::none::some V.aa::none::some (V.av 1 0 ((dp l).length+1+i) 1)::none::zS 2 (none::zS 80 [])))
   (fun i=> [.live (bk (jx l)),.live ((tz l i).map aF)]) (fN l.length) ?_ fun i hi KL hL=>?_
  ·dsimp only[aE,zN,zS]
   exact Yr [some 0,some 3] (by simp[ae,tz,aF])
  dsimp only[aE,zN,zS]
  rcases apQ i (fN l.length)with hi|hi
  ·repeat' (first|refine Z3 @cS ?_|refine Zt ?_|refine Y8 fun K hK=>?_|(apply hK;clear hK K)|(refine Zk 0 [] ?_;refine Zl ?_)|(refine Yb rfl ?_ ?_<;>intro ab<;>(try simp at ab)<;>try exact dc)|refine Z6 @cS ?_|refine Zx ?_|clear hK K)
   refine hL _ _ hi ?_
   exact Yr [some 0,some 3] (by simp[ae,Wr])
  obtain rfl:i=fN l.length:=by omega
  repeat' (first|refine Zr ?_|refine Zt ?_|refine Y8 fun K hK=>?_|(apply hK;clear hK K)|(refine Zk 0 [] ?_;refine Zl ?_)|(refine Yb rfl ?_ ?_<;>intro ab<;>(try simp at ab)<;>try exact dc)|refine Zo ?_|refine Zx ?_|clear hK K)
  rw[←Wt]
  refine aV (fun j=>(some V.aa::none::some V.aa::none::some (V.av 1 0 ((dp l).length+1+fN l.length+j) 1)::none::some (V.int .i64 (7-j))::some V.aa::none::zS 80 []))
   (fun j=> [.live (bk (jx l)),.live ((te l j).map aF)]) 8 ?_ fun j hj KL hL=>?_
  ·dsimp only[aE,zN,zS]
   exact Yr [some 0,some 1] (by simp[ae])
  dsimp only[aE,zN,zS]
  rcases apQ j 8 with hj|hj
  ·repeat' (first|refine Z3 @cS ?_|refine Zt ?_|refine Y8 fun K hK=>?_|(apply hK;clear hK K)|(refine Zk 0 [] ?_;refine Zl ?_)|(refine Yb rfl ?_ ?_<;>intro ab<;>(try simp at ab)<;>try exact dc)|refine Z6 @cS ?_|refine Zx ?_|clear hK K)
   refine hL _ _ hj ?_
   rw[MM l.length j hj]
   exact Yr [some 0,some 3] (by simp[ae,Ws])
  obtain rfl:j=8:=by omega
  repeat' (first|refine Zr ?_|refine Zt ?_|refine Y8 fun K hK=>?_|(apply hK;clear hK K)|(refine Zk 0 [] ?_;refine Zl ?_)|(refine Yb rfl ?_ ?_<;>intro ab<;>(try simp at ab)<;>try exact dc)|refine Zo ?_|refine Zx ?_|clear hK K)
  obtain⟨T,hT⟩: ∃T,T=te l 8:=⟨_,rfl⟩
  have hTl:T.length=(dp l).length+1+fN l.length+8:=by simp[hT]
  rw[←hT,←hTl]
  refine aV (fun k=>(some V.aa::none::some V.aa::none::some (V.av 1 (64*k) (T.length-64*k) 1)::zS 3 (none::zS 80 [])))
   (fun k=> [.live (bk (comp (jx l) T k)),.live (T.map aF)]) (T.length/64) ?_ fun k hk KL hL=>?_
  ·dsimp only[aE,zN,zS]
   exact Yr [some 0,some 1] (by simp[ae,comp])
  dsimp only[aE,zN,zS]
  rcases apQ k (T.length/64)with hk|hk
  ·repeat' (first|((first|refine Zu ?_|(refine Zv ?_ ?_;(focus (simp[apR,eC];done))));intro K9 h9;simp(disch:=first|exact dd|fail) [apR,eC];refine Zm ?_;((first|refine aI (xc (comp (jx l) T k) ((T.drop (64*k)).take 64) (by simp) (by simp;omega)) ⟨.pure (.agg (jz _)),wX rfl (by omega) rfl,trivial⟩ (yX _) ?_|skip)<;>((repeat(refine And.intro (by first|omega|(simp[bk];first|done|omega)|assumption|(intro e9;have e8:=congrArg List.length e9;first|(simp[bk]at e8;done)|((try simp only[aqz,aqa]at e8);rw[aqh]at e8;omega))) ?_));(first|refine h9 _ _ (Ys ?_)|refine h9 _ _ (Yt ?_));clear h9 K9)))|refine Zt ?_|refine Y8 fun K hK=>?_|(apply hK;clear hK K)|(refine Zk 0 [] ?_;refine Zl ?_)|(refine Yb rfl ?_ ?_<;>intro ab<;>(try simp at ab)<;>try exact dc)|refine Z6 (Zj @apR.{0} @eC) ?_|refine Zx ?_|clear hK K)
   refine hL _ _ hk ?_
   exact Yr [some 0,some 1] (by simp[ae,comp])
  obtain rfl:k=T.length/64:=by omega
  have It:comp (jx l) T (T.length/64)=jx (l++qY l.length):=by rw[xd,hT,YN]
  rw[It]
  repeat' (first|refine Z3 @apR.{0} ?_|refine Zt ?_|refine Y8 fun K hK=>?_|(apply hK;clear hK K)|(refine Zk 0 [] ?_;refine Zl ?_)|(refine Yb rfl ?_ ?_<;>intro ab<;>(try simp at ab)<;>try exact dc)|refine Z6 @apR.{0} ?_|refine Zx ?_|clear hK K)
  obtain⟨v,hv⟩: ∃v,v=jx (l++qY l.length):=⟨_,rfl⟩
  have vV:v.length=8:=by simp[hv]
  rw[←hv]
  clear It
  refine aV (fun i=>(some V.aa::none::zS 5 (some (V.av 0 0 (4*i) 1)::none::zS 59 (none::some (V.int .i64 i)::zS 19 []))))
   (fun i=> [.live ((ob v i).map aF)]) 8 ?_ fun i hi KL hL=>?_
  ·dsimp only[aE,zN,zS]
   exact Yr [none] (by simp[ae,ob])
  dsimp only[aE,zN,zS]
  rcases apQ i 8 with hi|hi
  ·have pK:=oo v i (by omega)
   repeat' (first|((first|refine Zu ?_|(refine Zv ?_ ?_;(focus (simp[vV,cS,pK];done))));intro K9 h9;simp(disch:=first|exact dd|fail) [vV,cS,pK];refine Zm ?_;((repeat(refine And.intro (by first|omega|(simp[pK];first|done|omega)|assumption|(intro e9;have e8:=congrArg List.length e9;first|(simp[pK]at e8;done)|((try simp only[aqz,aqa]at e8);rw[aqh]at e8;omega))) ?_));(first|refine h9 _ _ (Ys ?_)|refine h9 _ _ (Yt ?_));clear h9 K9))|refine Zt ?_|refine Y8 fun K hK=>?_|(apply hK;clear hK K)|(refine Zk 0 [] ?_;refine Zl ?_)|(refine Yb rfl ?_ ?_<;>intro ab<;>(try simp at ab)<;>try exact dc)|refine Z6 (Zj vV (Zj @cS pK)) ?_|refine Zx ?_|clear hK K)
   refine hL _ _ hi ?_
   exact Yr [some 2] (by simp[ae,EZ v i (by omega),cg,Qm])
  obtain rfl:i=8:=by omega
  have pK:=oo v 8 (by omega)
  repeat' (first|((first|refine Zu ?_|(refine Zv ?_ ?_;(focus (simp[cS,pK,apR];done))));intro K9 h9;simp(disch:=first|exact dd|fail) [cS,pK,apR];refine Zm ?_;((repeat(refine And.intro (by first|omega|(simp[pK];first|done|omega)|assumption|(intro e9;have e8:=congrArg List.length e9;first|(simp[pK]at e8;done)|((try simp only[aqz,aqa]at e8);rw[aqh]at e8;omega))) ?_));(first|refine h9 _ _ (Ys ?_)|refine h9 _ _ (Yt ?_));clear h9 K9))|refine Zt ?_|refine Y8 fun K hK=>?_|(apply hK;clear hK K)|(refine Zk 0 [] ?_;refine Zl ?_)|(refine Yb rfl ?_ ?_<;>intro ab<;>(try simp at ab)<;>try exact dc)|refine Z6 (Zj @cS (Zj pK @apR.{0})) ?_|refine Zx ?_|clear hK K)
  simp[Ix v 8 (by omega),gl,←hv]
  exact .pure .str
 rcases hx with rfl|⟨rfl,rfl⟩
 ·by_cases hn:l=[]
  ·subst hn
   rw[show kA []=bk z8++[.sl 0 [],.int .i64 0]from rfl]
   repeat' (first|((first|refine Zu ?_|(refine Zv ?_ ?_;(focus (simp[jq,jo,dO,eS,eC];done))));intro K9 h9;simp(disch:=first|exact dd|fail) [jq,jo,dO,eS,eC];refine Zm ?_;((first|refine Ap j7 ?_|skip)<;>((repeat(refine And.intro (by first|omega|(simp[bk];first|done|omega)|assumption|(intro e9;have e8:=congrArg List.length e9;first|(simp[bk]at e8;done)|((try simp only[aqz,aqa]at e8);rw[aqh]at e8;omega))) ?_));(first|refine h9 _ _ (Ys ?_)|refine h9 _ _ (Yt ?_));clear h9 K9)))|refine Zt ?_|refine Y8 fun K hK=>?_|(apply hK;clear hK K)|((first|refine Zk 0 [0,0,0,1,0,0,0,1] ?_|refine Zk 0 [] ?_);refine Zl ?_)|(refine Yb rfl ?_ ?_<;>intro ab<;>(try simp at ab)<;>try exact dc)|refine Z6 (Zj @jq (Zj @jo (Zj @dO (Zj @eS @eC)))) ?_|refine Zx ?_|clear hK K)
   exact hL _ _ _ _ (Le.mk [some 0,none] (by simp[dp]) (aZ (by simp) (by simp[ae,jx,comp,dp])) (by simp)) main
  ·rw[rz hn]
   have YL:0<l.length:=aqj.2 hn
   repeat' (first|((first|refine Zu ?_|(refine Zv ?_ ?_;(focus (simp[jq,jo,dO,eS,eC,oq];done))));intro K9 h9;simp(disch:=first|exact dd|fail) [jq,jo,dO,eS,eC,oq];refine Zm ?_;((first|refine Ap j7 ?_|skip)<;>((repeat(refine And.intro (by first|omega|(simp[bk];first|done|omega)|assumption|(intro e9;have e8:=congrArg List.length e9;first|(simp[bk]at e8;done)|((try simp only[aqz,aqa]at e8);rw[aqh]at e8;omega))) ?_));(first|refine h9 _ _ (Ys ?_)|refine h9 _ _ (Yt ?_));clear h9 K9)))|refine Zt ?_|refine Y8 fun K hK=>?_|(apply hK;clear hK K)|((first|refine Zk 0 [0,0,0,1,0,0,0,1] ?_|refine Zk 0 [] ?_);refine Zl ?_)|(refine Yb rfl ?_ ?_<;>intro ab<;>(try simp at ab)<;>try exact dc)|refine Z6 (Zj @jq (Zj @jo (Zj @dO (Zj @eS (Zj @eC oq))))) ?_|refine Zx ?_|clear hK K)
   exact hL _ _ _ _ (Le.mk [some 0,some 1] (by simp) (aZ (by simp) (by simp[ae])) (by simp)) main
 ·repeat' (first|((first|refine Zu ?_|(refine Zv ?_ ?_;(focus (simp[eC];done))));intro K9 h9;simp(disch:=first|exact dd|fail) [eC];refine Zm ?_;((first|refine Ap j7 ?_|skip)<;>((repeat(refine And.intro (by first|omega|(simp[bk];first|done|omega)|assumption|(intro e9;have e8:=congrArg List.length e9;first|(simp[bk]at e8;done)|((try simp only[aqz,aqa]at e8);rw[aqh]at e8;omega))) ?_));(first|refine h9 _ _ (Ys ?_)|refine h9 _ _ (Yt ?_));clear h9 K9)))|refine Zt ?_|refine Y8 fun K hK=>?_|(apply hK;clear hK K)|(refine Zk 0 [] ?_;refine Zl ?_)|(refine Yb rfl ?_ ?_<;>intro ab<;>(try simp at ab)<;>try exact dc)|refine Z6 @eC ?_|refine Zx ?_|clear hK K)
  exact hL _ _ _ _ (Le.mk [some 0,none] (by simp[dp]) (aZ (by simp) (by simp[ae,jx,comp,dp])) (by simp)) main
 ·exact .str
end Go.Proofs.YtjlnoogcggdhkaaGreatDoor
