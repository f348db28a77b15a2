/-
 HOST: texts cut at a byte, in plain Lean; the kit's words for them.
 Conditions: none.
-/
import Derived.Lib.SplitLaws
import Derived.Lib.Strings
import Derived.Test.YtjlnoogcggdhkaaGreatDoorShelf
import Derived.Test.YtjlnoogcggdhkaaGreatDoorTab
import Derived.Test.YtjlnoogcggdhkaaGreatDoorGm
set_option maxRecDepth 100000
set_option maxHeartbeats 32000000
set_option linter.all false
namespace Go.Hst
abbrev Bs:=List UInt8
def sW(c:UInt8):UInt8:=if 65≤c.toNat∧c.toNat≤90 then UInt8.ofNat (c.toNat+32)else c
def low(s:Bs):Bs:=s.map sW
def okB(c:UInt8):Bool:=(97≤c.toNat&&c.toNat≤122)||(65≤c.toNat&&c.toNat≤90)||(48≤c.toNat&&c.toNat≤57)
def cq(c:UInt8):Bs→List Bs
 |[]=> [[]]
 |b::l=>if b=c then[]::cq c l else match cq c l with
  |[]=> [[b]]
  |x::xs=>(b::x)::xs
def dJ(c:UInt8)(s:Bs):Bs:=s.takeWhile (· !=c)
def fO(c:UInt8)(s:Bs):Bs:=(s.dropWhile (· !=c)).drop 1
theorem yZ(c:UInt8): ∀s,cq c s≠ []
 |[]=>by simp[cq]
 |b::l=>by
  unfold cq
  split
  ·simp
  ·split<;>simp
theorem w6(c:UInt8): ∀s:Bs,c∉s→cq c s=[s]
 |[],_=>rfl
 |b::l,h=>by
  simp only[ap8,not_or]at h
  unfold cq
  rw[if_neg (fun e=>h.1 e.symm),w6 c l h.2]
theorem w0(c:UInt8): ∀a b:Bs,c∉a→cq c (a++c::b)=a::cq c b
 |[],b,_=>by simp[cq]
 |x::a,b,h=>by
  simp only[ap8,not_or]at h
  rw[List.cons_append,cq,if_neg (fun e=>h.1 e.symm),w0 c a b h.2]
theorem oU(c:UInt8): ∀s:Bs,(cq c s).length=s.count c+1
 |[]=>rfl
 |b::l=>by
  have ih:=oU c l
  unfold cq
  split
  ·rename_i h;subst h;simp[ih]
  ·rename_i h
   rw[List.count_cons_of_ne h]
   split
   ·rename_i h2;exact absurd h2 (yZ c l)
   ·rename_i x xs h2;rw[h2]at ih;simpa using ih
theorem w7(c:UInt8): ∀(s:Bs) (x:UInt8),x∈s→x=c∨ ∃p∈cq c s,x∈p
 |[],x,h=>by simp at h
 |b::l,x,h=>by
  unfold cq
  split
  ·rename_i hb
   rcases ap8.1 h with rfl|h
   ·exact .inl hb
   ·rcases w7 c l x h with h|⟨p,h1,h2⟩
    ·exact .inl h
    ·exact .inr ⟨p,by simp[h1],h2⟩
  ·split
   ·rename_i h2;exact absurd h2 (yZ c l)
   ·rename_i y ys h2
    rcases ap8.1 h with rfl|h
    ·exact .inr ⟨x::y,by simp,by simp⟩
    ·rcases w7 c l x h with h|⟨p,h1,h3⟩
     ·exact .inl h
     ·rw[h2]at h1
      rcases ap8.1 h1 with rfl|h1
      ·exact .inr ⟨b::p,by simp,by simp[h3]⟩
      ·exact .inr ⟨p,by simp[h1],h3⟩
theorem lE(c:UInt8): ∀(s:Bs),∀p∈cq c s,c∉p∧p.length≤s.length
 |[],p,h=>by simp[cq]at h;subst h;simp
 |b::l,p,h=>by
  unfold cq at h
  split at h
  ·rcases ap8.1 h with rfl|h
   ·simp
   ·have:=lE c l p h;simp;exact⟨this.1,by omega⟩
  ·rename_i hb
   split at h
   ·rename_i h2;exact absurd h2 (yZ c l)
   ·rename_i y ys h2
    rcases ap8.1 h with rfl|h
    ·have:=lE c l y (by rw[h2];simp)
     simp only[ap8,not_or,apS]
     exact⟨⟨fun e=>hb e.symm,this.1⟩,by omega⟩
    ·have:=lE c l p (by rw[h2];simp[h])
     simp;exact⟨this.1,by omega⟩
theorem afD(c b:UInt8)(l:Bs):[c].isPrefixOf (b::l)=(c==b):=by simp[List.isPrefixOf]
theorem index_one(c:UInt8): ∀s:Bs,Lib.index s [c]=if c∈s then((dJ c s).length:Int)else-1
 |[]=>by simp[Lib.index]
 |b::l=>by
  unfold Lib.index
  rw[afD,index_one c l]
  by_cases hb:c=b
  ·subst hb;simp[dJ]
  ·have h1:(c==b)=false:=by simpa using hb
   have h2:(b !=c)=true:=by simp;exact fun e=>hb e.symm
   rw[h1]
   by_cases hm:c∈l
   ·have: ¬((((dJ c l).length:Int))== -1)=true:=by simp
    simp only[hm,if_true,ap8,or_true,aqo,if_false]
    rw[if_neg this]
    simp[dJ,arJ,h2]
   ·simp[hm,hb]
theorem Ay(c:UInt8): ∀s:Bs,c∈s→s=dJ c s++c::fO c s
 |[],h=>by simp at h
 |b::l,h=>by
  by_cases hb:b=c
  ·subst hb;simp[dJ,fO]
  ·have h2:(b !=c)=true:=by simpa using hb
   have:=Ay c l (by rcases ap8.1 h with h|h;exact absurd h.symm hb;exact h)
   simp only[dJ,fO,arJ,List.dropWhile_cons,h2,if_true,List.cons_append]at this⊢
   rw[←this]
theorem Az(c:UInt8): ∀s:Bs,c∉dJ c s
 |[]=>by simp[dJ]
 |b::l=>by
  have ih:=Az c l
  unfold dJ at ih⊢
  rw[arJ]
  by_cases hb:b=c
  ·subst hb;simp
  ·rw[if_pos (by simpa using hb)]
   simp only[ap8,not_or]
   exact⟨fun e=>hb e.symm,ih⟩
theorem MT(c:UInt8): ∀(s:Bs),c∉s→dJ c s=s
 |[],_=>rfl
 |b::l,h=>by
  simp only[ap8,not_or]at h
  have h2:(b !=c)=true:=by simp;exact fun e=>h.1 e.symm
  have:=MT c l h.2
  simp only[dJ,arJ,h2,if_true]at this⊢
  rw[this]
theorem IK(c:UInt8): ∀(s:Bs),c∉s→fO c s=[]
 |[],_=>rfl
 |b::l,h=>by
  simp only[ap8,not_or]at h
  have h2:(b !=c)=true:=by simp;exact fun e=>h.1 e.symm
  have:=IK c l h.2
  simp only[fO,List.dropWhile_cons,h2,if_true]at this⊢
  rw[this]
theorem Wu(c:UInt8)(s:Bs):(dJ c s).length≤s.length:=(List.takeWhile_prefix _).length_le
theorem pX(c:UInt8)(s:Bs):(fO c s).length≤s.length:=by
 unfold fO
 rw[apU]
 have:=(List.dropWhile_suffix (l:=s) (· !=c)).length_le
 omega
theorem Cq{s a b:Bs}{c:UInt8}(h:s=a++c::b):s.take a.length=a:=by rw[h];simp
theorem Cr{s a b:Bs}{c:UInt8}(h:s=a++c::b):s.drop (a.length+1)=b:=by rw[h,arZ];simp
theorem Iv(c:UInt8)(s:Bs):Lib.contains s [c]=decide (c∈s):=by
 unfold Lib.contains
 rw[index_one]
 by_cases h:c∈s<;>simp[h]
theorem Wv(c:UInt8)(s:Bs):Lib.cut s [c]=(dJ c s,fO c s,decide (c∈s)):=by
 unfold Lib.cut
 rw[index_one]
 by_cases h:c∈s
 ·have hs:=Ay c s h
  simp only[h,if_true]
  rw[if_pos (by omega)]
  simp only[aq4,ara,decide_true,apX,and_true]
  constructor
  ·exact Cq hs
  ·exact Cr hs
 ·simp[h,MT c s h,IK c s h]
theorem Dr(c:UInt8): ∀(k:Nat) (s:Bs),s.count c=k→Lib.splitK [c] 0 k s=cq c s
 |0,s,h=>by
  rw[w6 c s (List.count_eq_zero.1 h)];rfl
 |k+1,s,h=>by
  have hm:c∈s:=List.count_pos_iff.1 (by omega)
  have hs:=Ay c s hm
  have YR:(fO c s).count c=k:=by
   rw[hs,List.count_append,List.count_eq_zero.2 (Az c s),List.count_cons_self]at h
   omega
  unfold Lib.splitK
  rw[index_one,if_pos hm,if_neg (by simp)]
  conv=>rhs;rw[hs,w0 c _ _ (Az c s)]
  simp only[aq4,Nat.add_zero,ara]
  congr 1
  ·exact Cq hs
  ·rw[Cr hs,Dr c k _ YR]
theorem indexByte_ge(c:UInt8): ∀s:Bs,-1≤Lib.indexByte s c
 |[]=>by simp[Lib.indexByte]
 |a::t=>by
  have ih:=indexByte_ge c t
  unfold Lib.indexByte
  split
  ·decide
  ·split<;>omega
theorem sX(c:UInt8): ∀s:Bs,(0≤Lib.indexByte s c)↔c∈s
 |[]=>by simp[Lib.indexByte]
 |b::l=>by
  have ih:=sX c l
  have hg:=indexByte_ge c l
  unfold Lib.indexByte
  by_cases hb:b=c
  ·subst hb;simp
  ·have h1:(b==c)=false:=by simpa using hb
   have h3:c≠b:=fun e=>hb e.symm
   rw[h1]
   simp only[aqo,if_false,ap8,h3,false_or]
   by_cases hm:c∈l
   ·have h0:=ih.2 hm
    rw[if_neg (by simp;omega)]
    simp only[hm,iff_true];omega
   ·have h0: ¬0≤Lib.indexByte l c:=fun h=>hm (ih.1 h)
    have:Lib.indexByte l c= -1:=by omega
    simp[hm,this]
end Go.Hst
namespace Go.Proofs.YtjlnoogcggdhkaaGreatDoor.Ho
open Go.VS Go.Hst
theorem sj{w:World}{ro:Nat→Prop}{ρ:bP}{vs:Array Value}{s t:List UInt8}(h:bh w ro ρ vs.toList [.str s,.str t]):vs=#[.string ⟨s.toArray⟩,.string ⟨t.toArray⟩]:=by
 obtain⟨l⟩:=vs
 match l,h with
 |[a,b],h=>
  have h1:=h.2 0 a _ rfl rfl
  have h2:=h.2 1 b _ rfl rfl
  cases h1;cases h2;rfl
 |[],h=>simp[bh]at h
 |[_],h=>simp[bh]at h
 |_::_::_::_,h=>simp[bh]at h
theorem YS{w:World}{ro:Nat→Prop}{ρ:bP}{vs:Array Value}{s:List UInt8}{c:UInt8}(h:bh w ro ρ vs.toList [.str s,aF c]):vs=#[.string ⟨s.toArray⟩,.int .u8 c.toNat]:=by
 obtain⟨l⟩:=vs
 match l,h with
 |[a,b],h=>
  have h1:=h.2 0 a _ rfl rfl
  have h2:=h.2 1 b _ rfl rfl
  unfold aF at h2
  cases h1;cases h2;rfl
 |[],h=>simp[bh]at h
 |[_],h=>simp[bh]at h
 |_::_::_::_,h=>simp[bh]at h
theorem gL:Tryz.prog.globalNamed "internal/bytealg.MaxLen"=some 0:=by kernel_rfl
theorem qC(w:World):w.os=w.os∧w.tape=w.tape∧w.output=w.output∧w.heap=w.heap:=⟨rfl,rfl,rfl,rfl⟩
theorem E5(s:List UInt8)(c:UInt8):ao Tryz.prog 295 [.str s,aF c] (.int .i64 (Lib.indexByte s c)):=by
 refine mn Tryz.call295 (by simp) fun w ro ρ vs _ ha=>?_
 rw[YS ha]
 refine(Tryz.strings_IndexByte ⟨s.toArray⟩ c.toNat w).mono ?_
 rintro e w' ⟨rfl,rfl⟩
 refine⟨qC _,_,rfl,fun ro ρ=>?_⟩
 have:(c.toNat:Int).toNat.toUInt8=c:=by simp
 rw[this]
 exact .int
theorem EY(s p:List UInt8):ao Tryz.prog 275 [.str s,.str p] (.aB [.str (Lib.trimPrefix s p),.bool (Lib.hasPrefix s p)]):=by
 refine mn Tryz.call275 (by simp) fun w ro ρ vs _ ha=>?_
 rw[sj ha]
 refine(Tryz.strings_CutPrefix ⟨s.toArray⟩ ⟨p.toArray⟩ w).mono ?_
 rintro e w' ⟨rfl,rfl⟩
 refine⟨qC _,_,rfl,fun ro ρ=>.aB rfl fun i u x hu hx=>?_⟩
 match i,hu,hx with
 |0,hu,hx=>simp at hu hx;subst hu;subst hx;exact .str
 |1,hu,hx=>simp at hu hx;subst hu;subst hx;exact .bool
 |i+2,hu,hx=>simp at hx
theorem Dt(s p:List UInt8):ao Tryz.prog 270 [.str s,.str p] (.str (Lib.trimPrefix s p)):=by
 refine mn Tryz.call270 (by simp) fun w ro ρ vs _ ha=>?_
 rw[sj ha]
 refine(Tryz.strings_TrimPrefix ⟨s.toArray⟩ ⟨p.toArray⟩ w).mono ?_
 rintro e w' ⟨rfl,rfl⟩
 exact⟨qC _,_,rfl,fun ro ρ=>.str⟩
theorem E6(s p:List UInt8)(hs:s.length≤4294967280):ao Tryz.prog 274 [.str s,.str p] (.bool (Lib.hasSuffix s p)):=by
 refine mn Tryz.call274 (by simp) fun w ro ρ vs _ ha=>?_
 rw[sj ha]
 refine(Tryz.strings_HasSuffix ⟨s.toArray⟩ ⟨p.toArray⟩ w (by show s.toArray.size≤_;simp;omega)).mono ?_
 rintro e w' ⟨rfl,rfl⟩
 exact⟨qC _,_,rfl,fun ro ρ=>.bool⟩
theorem yr(s p:List UInt8)(hs:s.length≤4294967280):ao Tryz.prog 276 [.str s,.str p] (.bool (Lib.contains s p)):=by
 refine mn Tryz.call276 (by simp) fun w ro ρ vs go ha=>?_
 rw[sj ha]
 obtain⟨-,m,hm⟩:=go 0 gL
 refine(Tryz.strings_Contains ⟨s.toArray⟩ ⟨p.toArray⟩ m w (by show s.toArray.size<_;simp;omega) hm).mono ?_
 rintro e w' ⟨rfl,rfl⟩
 exact⟨qC _,_,rfl,fun ro ρ=>.bool⟩
theorem xe(s:List UInt8)(c:UInt8)(hs:s.length≤4294967280):ao Tryz.prog 233 [.str s,.str [c]] (.aB [.str (dJ c s),.str (fO c s),.bool (decide (c∈s))]):=by
 refine mn Tryz.call233 (by simp) fun w ro ρ vs go ha=>?_
 rw[sj ha]
 obtain⟨-,m,hm⟩:=go 0 gL
 refine(Tryz.strings_Cut ⟨s.toArray⟩ ⟨[c].toArray⟩ m w (by show s.toArray.size<_;simp;omega) hm).mono ?_
 rintro e w' ⟨rfl,n,rfl⟩
 refine⟨⟨rfl,rfl,rfl,rfl⟩,_,rfl,fun ro ρ=>.aB rfl fun i u x hu hx=>?_⟩
 simp only[Wv]at hu
 match i,hu,hx with
 |0,hu,hx=>simp at hu hx;subst hu;subst hx;exact .str
 |1,hu,hx=>simp at hu hx;subst hu;subst hx;exact .str
 |2,hu,hx=>simp at hu hx;subst hu;subst hx;exact .bool
 |i+3,hu,hx=>simp at hx
theorem NZ(s:List UInt8)(c:UInt8)(hs:s.length≤4294967280):ao Tryz.prog 290 [.str s,.str [c]] (.sl (cq c s).length ((cq c s).map V.str)):=by
 refine LR Tryz.call290 (by simp[Ww]) fun w ro ρ vs go ha=>?_
 rw[sj ha]
 obtain⟨-,m,hm⟩:=go 0 gL
 refine(Tryz.strings_Split ⟨s.toArray⟩ ⟨[c].toArray⟩ m w (by show s.toArray.size<_;simp;omega) hm (aqf 1)).mono ?_
 rintro e w' ⟨rfl,rfl⟩
 have Tj:Lib.countB ⟨s.toArray⟩ ⟨[c].toArray⟩=s.count c:=Lib.count_one c s
 have hB:(Lib.splitB ⟨[c].toArray⟩ 0 (s.count c) ⟨s.toArray⟩).map (·.data.toList)=cq c s:=by
  rw[Lib.splitB_data]
  exact Dr c _ s rfl
 refine⟨⟨_,rfl⟩,_,rfl,fun aY ρ gd=>?_⟩
 rw[Tj]
 have hl:(Lib.splitB ⟨[c].toArray⟩ 0 (s.count c) ⟨s.toArray⟩).length=(cq c s).length:=by rw[←hB];simp
 rw[show s.count c+1=(cq c s).length from(oU c s).symm]
 refine .sl (us:=(Lib.splitB ⟨[c].toArray⟩ 0 (s.count c) ⟨s.toArray⟩).map Value.string) rfl gd (aqf _) (by simp[hl]) (fun i u hu=>?_) fun i u x hu hx=>?_
 ·show(w.alloc _).cell? _=_
  simp only[World.cell?,World.alloc,Array.getElem?_push_size]
  rw[aq6]
  simpa using hu
 ·rw[←hB,List.map_map]at hx
  simp only[apZ]at hu hx
  cases hb:(Lib.splitB ⟨[c].toArray⟩ 0 (s.count c) ⟨s.toArray⟩)[i]? with
  |none=>rw[hb]at hu;simp at hu
  |some b=>
   rw[hb]at hu hx
   simp at hu hx
   subst hu;subst hx
   exact .str
end Go.Proofs.YtjlnoogcggdhkaaGreatDoor.Ho
namespace Go.Proofs.YtjlnoogcggdhkaaGreatDoor.Ho
open Go.VS Go.Hst
attribute [local irreducible] bj au bE aS bz
theorem cS{l:List UInt8}{n:Nat}(h:l.length≤n):List.take n (l.map aF)=l.map aF:=apR (by simpa using h)
theorem wrap_u8'(n:Int):IntKind.u8.wrap n=n%256:=by simp[IntKind.wrap,IntKind.signed,IntKind.bits]
def IL(c:UInt8):Bool:=(97≤c.toNat&&c.toNat≤122)||(65≤c.toNat&&c.toNat≤90)
def IM(c:UInt8):Bool:=48≤c.toNat&&c.toNat≤57
theorem v8(c:UInt8):okB c=(IL c||IM c):=rfl
theorem nq(c:UInt8):ao Tryz.prog 293 [aF c] (.bool (IL c)):=by
 refine ah Tryz.func293 rfl Tryz.call293 ?_ ?_
 rotate_left 1
 refine af (s':=(aF c:V)::zJ 16) rfl ?_;dsimp only[zJ]
 have hc:c.toNat<256:=aqk _
 simp only[aF]
 by_cases a1:(97:Int)≤c.toNat<;>by_cases a2:(c.toNat:Int)≤122<;>by_cases a3:(65:Int)≤c.toNat<;>by_cases a4:(c.toNat:Int)≤90<;>(try(exfalso;omega))<;>(
 repeat' (first|refine b9 (Zj a1 (Zj a2 (Zj a3 a4))) ?_|refine ay ?_|refine aK (Zj a1 (Zj a2 (Zj a3 a4))) ?_|fail)
 have b1:decide (97≤c.toNat)=decide ((97:Int)≤c.toNat):=by simp;omega
 have b2:decide (c.toNat≤122)=decide ((c.toNat:Int)≤122):=by simp;omega
 have b3:decide (65≤c.toNat)=decide ((65:Int)≤c.toNat):=by simp;omega
 have b4:decide (c.toNat≤90)=decide ((c.toNat:Int)≤90):=by simp;omega
 simp[IL,b1,b2,b3,b4,a1,a2,a3,a4]
 exact .pure .bool)
 ·exact .bool
theorem oZ(c:UInt8):ao Tryz.prog 294 [aF c] (.bool (IM c)):=by
 refine ah Tryz.func294 rfl Tryz.call294 ?_ ?_
 rotate_left 1
 refine af (s':=(aF c:V)::zJ 8) rfl ?_;dsimp only[zJ]
 have hc:c.toNat<256:=aqk _
 simp only[aF]
 by_cases a1:(48:Int)≤c.toNat<;>by_cases a2:(c.toNat:Int)≤57<;>(try(exfalso;omega))<;>(
 repeat' (first|refine b9 (Zj a1 a2) ?_|refine ay ?_|refine aK (Zj a1 a2) ?_|fail)
 have b1:decide (48≤c.toNat)=decide ((48:Int)≤c.toNat):=by simp;omega
 have b2:decide (c.toNat≤57)=decide ((c.toNat:Int)≤57):=by simp;omega
 simp[IM,b1,b2,a1,a2]
 exact .pure .bool)
 ·exact .bool
theorem oV(c:UInt8):ao Tryz.prog 254 [aF c] (.bool (okB c)):=by
 refine ah Tryz.func254 rfl Tryz.call254 ?_ ?_
 rotate_left 1
 refine af (s':=(aF c:V)::zJ 24) rfl ?_;dsimp only[zJ]
 have hc:c.toNat<256:=aqk _
 simp only[aF]
 by_cases a3:(65:Int)≤c.toNat<;>by_cases a4:(c.toNat:Int)≤90<;>by_cases a1:(97:Int)≤c.toNat<;>by_cases a2:(c.toNat:Int)≤122<;>by_cases a5:(48:Int)≤c.toNat<;>by_cases a6:(c.toNat:Int)≤57<;>(try(exfalso;omega))<;>(
 repeat' (first|refine b9 (Zj a1 (Zj a2 (Zj a3 (Zj a4 (Zj a5 a6))))) ?_|refine ay ?_|refine aK (Zj a1 (Zj a2 (Zj a3 (Zj a4 (Zj a5 a6))))) ?_|fail)
 have b1:decide (97≤c.toNat)=decide ((97:Int)≤c.toNat):=by simp;omega
 have b2:decide (c.toNat≤122)=decide ((c.toNat:Int)≤122):=by simp;omega
 have b3:decide (65≤c.toNat)=decide ((65:Int)≤c.toNat):=by simp;omega
 have b4:decide (c.toNat≤90)=decide ((c.toNat:Int)≤90):=by simp;omega
 have b5:decide (48≤c.toNat)=decide ((48:Int)≤c.toNat):=by simp;omega
 have b6:decide (c.toNat≤57)=decide ((c.toNat:Int)≤57):=by simp;omega
 simp[okB,b1,b2,b3,b4,b5,b6,a1,a2,a3,a4,a5,a6]
 exact .pure .bool)
 ·exact .bool
theorem Du(c:UInt8)(l:List UInt8)(hl:l.length≤1000000):ao Tryz.prog 255 [aF c,.str l] (.bool (decide (c∈l))):=by
 refine ah Tryz.func255 rfl Tryz.call255 ?_ ?_
 rotate_left 1
 refine af (s':=(aF c:V)::(.str l:V)::zJ 15) rfl ?_;dsimp only[zJ]
 simp only[aF]
 repeat' (first|refine Zq ?_|refine Zt ?_|(refine Yb rfl ?_ ?_<;>intro ab<;>(try simp at ab)<;>try exact dc))
 ·refine bm (α:=Nat) (fun i=>(zN 4 (some V.aa::some (V.int .i64 i)::zS 11 []))) (fun i=> []) (fun i=>i≤l.length∧ ∀j (h:j<l.length),j<i→l[j]≠c) (fun i=>l.length-i) 0 ⟨by omega,fun j _ h=>by omega⟩ ?_ ?_
  ·dsimp only[aE,zN,zS]
   exact Yr [] (by simp[ae])
  rintro i ⟨hi,hall⟩ KL hL
  dsimp only[aE,zN,zS]
  rcases apQ i l.length with hi|hi
  ·by_cases hx:l[i]=c
   ·have fp:((l[i].toNat:Int)=c.toNat):=by rw[hx]
    repeat' (first|refine Z0 fp ?_|refine Zt ?_|(refine Yb rfl ?_ ?_<;>intro ab<;>(try simp at ab)<;>try exact dc))
    have:decide (c∈l)=true:=by simp;rw[←hx];exact apY _
    rw[this]
    exact .pure .bool
   ·have fp: ¬((l[i].toNat:Int)=c.toNat):=fun e=>hx (ard.1 (by omega))
    repeat' (first|refine Z0 fp ?_|refine Zt ?_|(refine Yb rfl ?_ ?_<;>intro ab<;>(try simp at ab)<;>try exact dc))
    refine hL (i+1) _ _ ⟨by omega,fun j hj h=>?_⟩ (by omega) ?_
    ·rcases apQ j i with h3|h3
     ·exact hall j hj h3
     ·obtain rfl:j=i:=by omega
      exact hx
    ·exact Yr [] (by simp[ae])
  ·repeat' (first|refine Zq ?_|refine Zt ?_|(refine Yb rfl ?_ ?_<;>intro ab<;>(try simp at ab)<;>try exact dc))
   have:decide (c∈l)=false:=by
    simp
    intro hm
    obtain⟨j,hj,e⟩:=aqR hm
    exact hall j hj (by omega) e
   rw[this]
   exact .pure .bool
 ·exact .bool
end Go.Proofs.YtjlnoogcggdhkaaGreatDoor.Ho
namespace Go.Proofs.YtjlnoogcggdhkaaGreatDoor.Ho
open Go.VS Go.Hst
attribute [local irreducible] bj au bE aS bz
def kH(l:List UInt8)(i:Nat):List UInt8:=low (l.take i)++l.drop i
@[simp] theorem BC(l:List UInt8)(i:Nat):(kH l i).length=l.length:=by simp[kH,low];omega
@[simp] theorem ab1(l:List UInt8):(low l).length=l.length:=by simp[low]
theorem IN(l:List UInt8)(i:Nat)(h:i<l.length):(kH l i)[i]'(by simpa using h)=l[i]:=by
 have hl:(low (l.take i)).length=i:=by simp;omega
 simp only[kH]
 rw[List.getElem_append_right (by omega)]
 simp[hl]
theorem Gp(l:List UInt8)(i:Nat)(h:i<l.length):kH l (i+1)=(kH l i).set i (sW l[i]):=by
 have hl:(low (l.take i)).length=i:=by simp;omega
 unfold kH
 rw[arl _ _ (by omega),hl,Nat.sub_self,aqA h,arq h,
  show low (l.take i++[l[i]])=low (l.take i)++[sW l[i]]from arn,ap3]
 rfl
theorem Gq(l:List UInt8):kH l l.length=low l:=by simp[kH]
theorem Gr(l:List UInt8):kH l 0=l:=by simp[kH,low]
theorem MU(c:UInt8)(h: ¬(65≤c.toNat∧c.toNat≤90)):sW c=c:=by rw[sW,if_neg h]
theorem MV(c:UInt8)(h:65≤c.toNat∧c.toNat≤90):(sW c).toNat=c.toNat+32:=by rw[sW,if_pos h];simp;omega
theorem pY(l:List UInt8)(i:Nat)(c:UInt8)(h:i<l.length)(e:l[i]=c):l.set i c=l:=by
 apply List.ext_getElem (by simp)
 intro j h1 h2
 rw[List.getElem_set]
 split
 ·rename_i h;subst h;exact e.symm
 ·rfl
theorem rH(l:List UInt8)(hl:l.length≤4294967280):ao Tryz.prog 273 [.str l] (.str (low l)):=by
 refine ah Tryz.func273 rfl Tryz.call273 ?_ ?_
 rotate_left 1
 refine af (s':=(.str l:V)::zJ 29) rfl ?_;dsimp only[zJ]
 repeat' (first|refine Zr ?_|refine Zt ?_|(refine Yb rfl ?_ ?_<;>intro ab<;>(try simp at ab)<;>try exact dc)|refine Zo ?_|fail)
 ·refine aV (fun i=>(some V.aa::none::some V.aa::none::zS 4 (zN 2 (some (V.int .i64 i)::zS 19 [])))) (fun i=> [.live ((kH l i).map aF)]) l.length ?_ fun i hi KL hL=>?_
  ·dsimp only[aE,zN,zS]
   exact Yr [some 0] (by simp[ae,Gr])
  dsimp only[aE,zN,zS]
  have eR:=BC l i
  rcases apQ i l.length with hi|hi
  ·have hg:=IN l i hi
   have hs:=Gp l i hi
   have hc:(l[i]).toNat<256:=aqk _
   obtain⟨c,bX⟩: ∃c,l[i]=c:=⟨_,rfl⟩
   rw[bX]at hg hs hc
   obtain⟨L2,pJ⟩: ∃L2,kH l (i+1)=L2:=⟨_,rfl⟩
   rw[pJ]at hs
   by_cases a1:(65:Int)≤c.toNat<;>by_cases a2:(c.toNat:Int)≤90<;>(try(exfalso;omega))
   ·have hu:=MV c ⟨by omega,by omega⟩
    have hw:(c.toNat:Int)+97-65=((sW c).toNat:Int):=by omega
    repeat' (first|refine Z3 (Zj eR (Zj hg (Zj a1 a2))) ?_|refine Zt ?_|(refine Yb rfl ?_ ?_<;>intro ab<;>(try simp at ab)<;>try exact dc)|refine Z6 (Zj eR (Zj hg (Zj a1 a2))) ?_|fail)
    refine hL _ _ hi ?_
    have e:((kH l i).map aF).set i (.int .u8 (sW c).toNat)=L2.map aF:=by rw[hs,arB];rfl
    exact Le.mk [some 0] (by dsimp only[aE,zN,zS];simp) (aZ (by simp) (by rw[hw,e,pJ];simp[ae])) (by simp)
   all_goals
    have hid:=MU c (by omega)
    repeat' (first|refine Z3 (Zj eR (Zj hg (Zj a1 a2))) ?_|refine Zt ?_|(refine Yb rfl ?_ ?_<;>intro ab<;>(try simp at ab)<;>try exact dc)|refine Z6 (Zj eR (Zj hg (Zj a1 a2))) ?_|fail)
    refine hL _ _ hi ?_
    rw[hid,pY (kH l i) i c (by omega) hg]at hs
    rw[pJ,hs]
    exact Yr [some 0] (by simp[ae])
  ·obtain rfl:i=l.length:=by omega
   rw[Gq]
   have hB:=cS (l:=low l) (n:=l.length) (by simp)
   have pL:List.take l.length (low l)=low l:=apR (by simp)
   repeat' (first|refine Z3 (Zj hB pL) ?_|refine Zt ?_|(refine Yb rfl ?_ ?_<;>intro ab<;>(try simp at ab)<;>try exact dc)|refine Z6 (Zj hB pL) ?_|fail)
   exact .pure .str
 ·exact .str
theorem Dv(l:List UInt8)(hl:l.length≤4294967280):ao Tryz.prog 278 [.str l] (.str (low l)):=by
 refine ah Tryz.func278 rfl Tryz.call278 ?_ ?_
 rotate_left 1
 refine af (s':=(.str l:V)::zJ 32) rfl ?_;dsimp only[zJ]
 repeat' (first|refine Zr ?_|refine Zt ?_|(refine Yb rfl ?_ ?_<;>intro ab<;>(try simp at ab)<;>try exact dc)|refine Zo ?_|fail)
 ·refine aV (fun i=>(some V.aa::none::some V.aa::none::zS 4 (none::some (V.int .i64 i)::zS 23 []))) (fun i=> [.live ((kH l i).map aF)]) l.length ?_ fun i hi KL hL=>?_
  ·dsimp only[aE,zN,zS]
   exact Yr [some 0] (by simp[ae,Gr])
  dsimp only[aE,zN,zS]
  have eR:=BC l i
  rcases apQ i l.length with hi|hi
  ·have hg:=IN l i hi
   have hs:=Gp l i hi
   have hc:(l[i]).toNat<256:=aqk _
   obtain⟨c,bX⟩: ∃c,l[i]=c:=⟨_,rfl⟩
   rw[bX]at hg hs hc
   obtain⟨L2,pJ⟩: ∃L2,kH l (i+1)=L2:=⟨_,rfl⟩
   rw[pJ]at hs
   by_cases a1:(65:Int)≤c.toNat<;>by_cases a2:(c.toNat:Int)≤90<;>(try(exfalso;omega))
   ·have hu:=MV c ⟨by omega,by omega⟩
    have hw:(c.toNat:Int)+32=((sW c).toNat:Int):=by omega
    repeat' (first|refine Z3 (Zj eR (Zj hg (Zj a1 a2))) ?_|refine Zt ?_|(refine Yb rfl ?_ ?_<;>intro ab<;>(try simp at ab)<;>try exact dc)|refine Z6 (Zj eR (Zj hg (Zj a1 a2))) ?_|fail)
    refine hL _ _ hi ?_
    have e:((kH l i).map aF).set i (.int .u8 (sW c).toNat)=L2.map aF:=by rw[hs,arB];rfl
    exact Le.mk [some 0] (by dsimp only[aE,zN,zS];simp) (aZ (by simp) (by rw[hw,e,pJ];simp[ae])) (by simp)
   all_goals
    have hid:=MU c (by omega)
    repeat' (first|refine Z3 (Zj eR (Zj hg (Zj a1 a2))) ?_|refine Zt ?_|(refine Yb rfl ?_ ?_<;>intro ab<;>(try simp at ab)<;>try exact dc)|refine Z6 (Zj eR (Zj hg (Zj a1 a2))) ?_|fail)
    refine hL _ _ hi ?_
    rw[hid,pY (kH l i) i c (by omega) hg]at hs
    rw[pJ,hs]
    exact Yr [some 0] (by simp[ae])
  ·obtain rfl:i=l.length:=by omega
   rw[Gq]
   have hB:=cS (l:=low l) (n:=l.length) (by simp)
   have pL:List.take l.length (low l)=low l:=apR (by simp)
   repeat' (first|refine Z3 (Zj hB pL) ?_|refine Zt ?_|(refine Yb rfl ?_ ?_<;>intro ab<;>(try simp at ab)<;>try exact dc)|refine Z6 (Zj hB pL) ?_|fail)
   exact .pure .str
 ·exact .str
def jT(a b:List UInt8):Bool:=low a==low b
def yP(s t:List UInt8):Bool:=Lib.hasSuffix (low s) (low t)
theorem xf(a b:List UInt8)(ha:a.length≤4294967280)(hb:b.length≤4294967280):ao Tryz.prog 234 [.str a,.str b] (.bool (jT a b)):=by
 refine ah Tryz.func234 rfl Tryz.call234 ?_ ?_
 rotate_left 1
 refine af (s':=(.str a:V)::(.str b:V)::zJ 8) rfl ?_;dsimp only[zJ]
 repeat' (first|(refine Zu ?_;intro K9 h9;refine Zd ?_;((first|refine Ap (rH a ha) ?_|refine Ap (rH b hb) ?_|skip)<;>(refine Zf h9 ?_;clear h9 K9)))|refine Zt ?_|fail)
 ·simp[jT]
  exact .pure .bool
 ·exact .bool
theorem rI(a b:List UInt8)(ha:a.length≤4294967280)(hb:b.length≤4294967280):ao Tryz.prog 246 [.str a,.str b] (.bool (jT a b)):=by
 refine ah Tryz.func246 rfl Tryz.call246 ?_ ?_
 rotate_left 1
 refine af (s':=(.str a:V)::(.str b:V)::zJ 8) rfl ?_;dsimp only[zJ]
 repeat' (first|(refine Zu ?_;intro K9 h9;refine Zd ?_;((first|refine Ap (Dv a ha) ?_|refine Ap (Dv b hb) ?_|skip)<;>(refine Zf h9 ?_;clear h9 K9)))|refine Zt ?_|fail)
 ·simp[jT]
  exact .pure .bool
 ·exact .bool
theorem Gs(a b:List UInt8)(ha:a.length≤4294967280)(hb:b.length≤4294967280):ao Tryz.prog 235 [.str a,.str b] (.bool (yP a b)):=by
 refine ah Tryz.func235 rfl Tryz.call235 ?_ ?_
 rotate_left 1
 refine af (s':=(.str a:V)::(.str b:V)::zJ 8) rfl ?_;dsimp only[zJ]
 have yC:(low a).length≤4294967280:=by simpa using ha
 repeat' (first|(refine Zu ?_;intro K9 h9;refine Zd ?_;((first|refine Ap (rH a ha) ?_|refine Ap (rH b hb) ?_|refine Ap (E6 (low a) (low b) yC) ?_|skip)<;>(refine Zf h9 ?_;clear h9 K9)))|refine Zt ?_|fail)
 ·exact .pure .bool
 ·exact .bool
theorem MW(s t:List UInt8):yP s t=(decide (t.length≤s.length)&&jT (s.drop (s.length-t.length)) t):=by
 have hm:low (s.drop (s.length-t.length))=(low s).drop (s.length-t.length):=arY
 rw[yP,jT,hm,Lib.hasSuffix]
 apply aqP.2
 rw[List.isSuffixOf_iff_suffix,apP,decide_eq_true_eq,beq_iff_eq,List.suffix_iff_eq_drop]
 constructor
 ·intro h
  have:=congrArg List.length h
  simp at this
  simp at h
  exact⟨by omega,h.symm⟩
 ·rintro⟨h1,h2⟩
  simp
  exact h2.symm
theorem Dw(a b:List UInt8)(ha:a.length≤4294967280)(hb:b.length≤4294967280):ao Tryz.prog 247 [.str a,.str b] (.bool (yP a b)):=by
 refine ah Tryz.func247 rfl Tryz.call247 ?_ ?_
 rotate_left 1
 refine af (s':=(.str a:V)::(.str b:V)::zJ 19) rfl ?_;dsimp only[zJ]
 by_cases h:b.length≤a.length
 ·have h':(b.length:Int)≤a.length:=by omega
  have e:((a.length:Int)-b.length).toNat=a.length-b.length:=by omega
  have yC:(a.drop (a.length-b.length)).length≤4294967280:=by simp;omega
  repeat' (first|((first|refine fc ?_|(refine fU ?_ ?_;(focus (simp[h,h',e,apR];done))));intro K9 h9;simp(disch:=first|exact dd|fail) [h,h',e,apR];refine Zm ?_;((first|refine Ap (rI (a.drop (a.length-b.length)) b yC hb) ?_|skip)<;>(refine fe h9 ?_;clear h9 K9)))|refine ay ?_|refine aK (Zj h (Zj h' (Zj e @apR.{0}))) ?_|fail)
  rw[MW]
  simp[h]
  exact .pure .bool
 ·repeat' (first|refine b9 h ?_|refine ay ?_|refine aK h ?_|fail)
  rw[MW]
  simp[h]
  exact .pure .bool
 ·exact .bool
end Go.Proofs.YtjlnoogcggdhkaaGreatDoor.Ho
namespace Go.Proofs.YtjlnoogcggdhkaaGreatDoor.Ho
open Go.VS Go.Hst
attribute [local irreducible] bj au bE aS bz
def lF(c:UInt8):Bool:=okB c||c==45
def c9(l:List UInt8):Bool:=decide (1≤l.length)&&(decide (l.length≤63)&&(!(l.getD 0 0==45)&&(!(l.getD (l.length-1) 0==45)&&l.all lF)))
theorem Dg{a b:UInt8}(h:a≠b): ¬((a.toNat:Int)=b.toNat):=fun e=>h (ard.1 (by omega))
theorem Vg(a k:UInt8)(n:Int)(h:n=k.toNat):((a.toNat:Int)=n)↔a=k:=by
 subst h
 constructor
 ·intro h
  exact ard.1 (by omega)
 ·rintro rfl;rfl
theorem yq{a:UInt8}:((a.toNat:Int)=45)↔a=45:=Vg a 45 45 rfl
theorem all_false{l:List UInt8}{p:UInt8→Bool}{i:Nat}(hi:i<l.length)(h:p l[i]=false):l.all p=false:=by
 rw[arz]
 exact⟨l[i],apY _,by simp[h]⟩
theorem all_true{l:List UInt8}{p:UInt8→Bool}(h: ∀j (h:j<l.length),p l[j]=true):l.all p=true:=by
 rw[ap1]
 intro x hx
 obtain⟨j,hj,rfl⟩:=aqR hx
 exact h j hj
theorem Df(l:List UInt8)(hl:l.length≤4294967280):ao Tryz.prog 291 [.str l] (.bool (c9 l)):=by
 refine ah Tryz.func291 rfl Tryz.call291 ?_ ?_
 rotate_left 1
 refine af (s':=(.str l:V)::zJ 45) rfl ?_;dsimp only[zJ]
 by_cases h1:l=[]
 ·subst h1
  repeat' (first|refine yk ?_|refine ay ?_|(refine Yb rfl ?_ ?_<;>intro ab<;>(try simp at ab)<;>try exact dc)|refine gm ?_|fail)
  exact .pure .bool
 have cI:0<l.length:=aqj.2 h1
 replace h1: ¬(l.length:Int)<1:=by omega
 by_cases h2:(63:Int)<l.length
 ·repeat' (first|refine b9 (Zj h1 h2) ?_|refine ay ?_|(refine Yb rfl ?_ ?_<;>intro ab<;>(try simp at ab)<;>try exact dc)|refine aK (Zj h1 h2) ?_|fail)
  have:c9 l=false:=by
   have:decide (l.length≤63)=false:=by simp;omega
   simp[c9,this]
  rw[this]
  exact .pure .bool
 have e1:((l.length:Int)-1).toNat=l.length-1:=by omega
 have g0:l.getD 0 0=l[0]'(by omega):=by simp[show 0<l.length by omega]
 have g1:l.getD (l.length-1) 0=l[l.length-1]'(by omega):=by simp[show l.length-1<l.length by omega]
 by_cases h3:((l[0]'(by omega)).toNat:Int)=45
 ·repeat' (first|refine b9 (Zj h1 (Zj h2 h3)) ?_|refine ay ?_|(refine Yb rfl ?_ ?_<;>intro ab<;>(try simp at ab)<;>try exact dc)|refine aK (Zj h1 (Zj h2 h3)) ?_|fail)
  have:c9 l=false:=by
   have:l[0]'(by omega)=45:=yq.1 h3
   rw[c9,g0,this];simp
  rw[this]
  exact .pure .bool
 by_cases h4:((l[l.length-1]'(by omega)).toNat:Int)=45
 ·repeat' (first|refine b9 (Zj h1 (Zj h2 (Zj h3 (Zj h4 e1)))) ?_|refine ay ?_|(refine Yb rfl ?_ ?_<;>intro ab<;>(try simp at ab)<;>try exact dc)|refine aK (Zj h1 (Zj h2 (Zj h3 (Zj h4 e1)))) ?_|fail)
  have:c9 l=false:=by
   have:l[l.length-1]'(by omega)=45:=yq.1 h4
   rw[c9,g0,g1,this];simp
  rw[this]
  exact .pure .bool
 have hB:c9 l=l.all lF:=by
  have q1:decide (1≤l.length)=true:=by simp;omega
  have q2:decide (l.length≤63)=true:=by simp;omega
  have q3:l[0]'(by omega)≠45:=fun e=>h3 (yq.2 e)
  have q4:l[l.length-1]'(by omega)≠45:=fun e=>h4 (yq.2 e)
  rw[c9,g0,g1,beq_false_of_ne q3,beq_false_of_ne q4,q1,q2];rfl
 rw[hB]
 repeat' (first|refine b9 (Zj h1 (Zj h2 (Zj h3 (Zj h4 e1)))) ?_|refine ay ?_|(refine Yb rfl ?_ ?_<;>intro ab<;>(try simp at ab)<;>try exact dc)|refine aK (Zj h1 (Zj h2 (Zj h3 (Zj h4 e1)))) ?_|fail)
 ·refine bm (α:=Nat) (fun i=>(some V.aa::none::some V.aa::none::zS 23 (zN 2 (some (V.int .i64 i)::zS 16 [])))) (fun i=> [.live (l.map aF)]) (fun i=>i≤l.length∧ ∀j (h:j<l.length),j<i→lF l[j]=true) (fun i=>l.length-i) 0 ⟨by omega,fun j _ h=>by omega⟩ ?_ ?_
  ·dsimp only[aE,zN,zS]
   exact Yr [some 0] (by simp[ae])
  rintro i ⟨hi,hall⟩ KL hL
  dsimp only[aE,zN,zS]
  rcases apQ i l.length with hi|hi
  ·have aP:lF l[i]=true→i+1≤l.length∧ ∀j (h:j<l.length),j<i+1→lF l[j]=true:=fun hx=>⟨by omega,fun j hj h=>by
    rcases apQ j i with h3|h3
    ·exact hall j hj h3
    ·obtain rfl:j=i:=by omega
     exact hx⟩
   have bV:lF l[i]=false→l.all lF=false:=all_false hi
   obtain⟨c,bX⟩: ∃c,l[i]=c:=⟨_,rfl⟩
   rw[bX]at aP bV
   cases bD:IL c
   ·cases bC:IM c
    ·by_cases cE:(c.toNat:Int)=45
     ·repeat' (first|((first|refine fc ?_|(refine fU ?_ ?_;(focus (simp[bX,bD,bC,cE];done))));intro K9 h9;simp(disch:=first|exact dd|fail) [bX,bD,bC,cE];refine Zm ?_;((first|refine Ap (nq c) ?_|refine Ap (oZ c) ?_|skip)<;>(refine fe h9 ?_;clear h9 K9)))|refine ay ?_|(refine Yb rfl ?_ ?_<;>intro ab<;>(try simp at ab)<;>try exact dc)|refine aK (Zj bX (Zj bD (Zj bC cE))) ?_|fail)
      have:c=45:=yq.1 cE
      refine hL (i+1) _ _ (aP (by simp[lF,this])) (by omega) ?_
      exact Yr [some 0] (by simp[ae])
     ·repeat' (first|((first|refine fc ?_|(refine fU ?_ ?_;(focus (simp[bX,bD,bC,cE];done))));intro K9 h9;simp(disch:=first|exact dd|fail) [bX,bD,bC,cE];refine Zm ?_;((first|refine Ap (nq c) ?_|refine Ap (oZ c) ?_|skip)<;>(refine fe h9 ?_;clear h9 K9)))|refine ay ?_|(refine Yb rfl ?_ ?_<;>intro ab<;>(try simp at ab)<;>try exact dc)|refine aK (Zj bX (Zj bD (Zj bC cE))) ?_|fail)
      have bw: ¬c=45:=fun e=>cE (yq.2 e)
      rw[bV (by simp[lF,v8,bD,bC,bw])]
      exact .pure .bool
    ·repeat' (first|((first|refine fc ?_|(refine fU ?_ ?_;(focus (simp[bX,bD,bC];done))));intro K9 h9;simp(disch:=first|exact dd|fail) [bX,bD,bC];refine Zm ?_;((first|refine Ap (nq c) ?_|refine Ap (oZ c) ?_|skip)<;>(refine fe h9 ?_;clear h9 K9)))|refine ay ?_|(refine Yb rfl ?_ ?_<;>intro ab<;>(try simp at ab)<;>try exact dc)|refine aK (Zj bX (Zj bD bC)) ?_|fail)
     refine hL (i+1) _ _ (aP (by simp[lF,v8,bC])) (by omega) ?_
     exact Yr [some 0] (by simp[ae])
   ·repeat' (first|((first|refine fc ?_|(refine fU ?_ ?_;(focus (simp[bX,bD];done))));intro K9 h9;simp(disch:=first|exact dd|fail) [bX,bD];refine Zm ?_;((first|refine Ap (nq c) ?_|refine Ap (oZ c) ?_|skip)<;>(refine fe h9 ?_;clear h9 K9)))|refine ay ?_|(refine Yb rfl ?_ ?_<;>intro ab<;>(try simp at ab)<;>try exact dc)|refine aK (Zj bX bD) ?_|fail)
    refine hL (i+1) _ _ (aP (by simp[lF,v8,bD])) (by omega) ?_
    exact Yr [some 0] (by simp[ae])
  ·repeat' (first|refine yk ?_|refine ay ?_|(refine Yb rfl ?_ ?_<;>intro ab<;>(try simp at ab)<;>try exact dc)|refine gm ?_|fail)
   rw[all_true fun j hj=>hall j hj (by omega)]
   exact .pure .bool
 ·exact .bool
end Go.Proofs.YtjlnoogcggdhkaaGreatDoor.Ho
