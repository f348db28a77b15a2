/-
 ENCODINGS: named bits encoded and decoded by the reference.
 Conditions: none.
-/
import Derived.Test.YtjlnoogcggdhkaaGreatDoorHa
import Derived.Test.YtjlnoogcggdhkaaGreatDoorVs31
import Derived.Test.YtjlnoogcggdhkaaGreatDoorGm
set_option maxRecDepth 100000
set_option maxHeartbeats 32000000
set_option linter.all false
namespace Go.Der
open Go.VS
def Am(m k:Nat):Nat:=(List.range k).foldl (fun n i=>if m/2^i%2=1 then i+1 else n) 0
def mX(m n k:Nat):Bs:=
 (List.range k).foldl (fun o i=>if m/2^i%2=1 then o.set (1+i/8) (o.getD (1+i/8) 0|||UInt8.ofNat (128/2^(i%8)))else o)
  ((List.replicate (1+(n+7)/8) 0).set 0 (UInt8.ofNat (8*((n+7)/8)-n)))
def PG(m:Nat):Bs:=mX m (Am m 16) (Am m 16)
theorem K6(m i:Nat):Am m (i+1)=if m/2^i%2=1 then i+1 else Am m i:=by simp[Am,aqV]
theorem K7(m:Nat): ∀k,Am m k≤k
 |0=>by simp[Am]
 |k+1=>by rw[K6];have:=K7 m k;split<;>omega
theorem Hk(m n i:Nat):mX m n (i+1)=if m/2^i%2=1 then(mX m n i).set (1+i/8) ((mX m n i).getD (1+i/8) 0|||UInt8.ofNat (128/2^(i%8)))else mX m n i:=by simp[mX,aqV]
theorem ye(m n:Nat): ∀k,(mX m n k).length=1+(n+7)/8
 |0=>by simp[mX]
 |k+1=>by rw[Hk];have:=ye m n k;split<;>simp[this]
theorem or8: ∀b:Nat,b<256→ ∀s,s<8→bits .or .u8 (b:Int) ((128:Int)/2^s)=((b|||128/2^s:Nat):Int):=by decide+kernel
end Go.Der
namespace Go.Proofs.YtjlnoogcggdhkaaGreatDoor
open Go.Proofs.Tryz
open Go.VS Go.Der
attribute [local irreducible] bj au bE aS bz
theorem HJ(m:Nat)(hm:m<512):ao prog 213 [.int .i64 m] (.aB [.str (PG m),.int .i64 0]):=by
 have g1: ¬(m:Int)<0:=by omega
 have g2: ¬65535<(m:Int):=by omega
 obtain⟨n,hn⟩: ∃n,Am m 16=n:=⟨_,rfl⟩
 unfold PG
 rw[hn]
 refine ah func213 rfl call213 ?_ ?_
 rotate_left 1
 refine af (s':=(.int .i64 m:V)::zJ 61) rfl ?_;dsimp only[zJ]
 ·repeat' (first|refine b9 (Zj g1 g2) ?_|refine ay ?_|(refine Zk 0 [] ?_;refine Zl ?_)|(refine Yb rfl ?_ ?_<;>intro ab<;>(try simp at ab)<;>try exact dc)|refine aK (Zj g1 g2) ?_|fail)
  refine aV (fun i=>(zN 2 (zS 2 (some (V.int .i64 (Am m i:Nat))::some (V.int .i64 i)::zS 56 [])))) (fun i=> []) 16 ?_ fun i hi KL hL=>?_
  ·dsimp only[aE,zN,zS]
   exact Le.drop (by simp[Am])
  dsimp only[aE,zN,zS]
  rcases apQ i 16 with hi|hi
  ·have hs:=K6 m i
   have hh:(m:Int)/2^i=((m/2^i:Nat):Int):=by simp
   by_cases hb:m/2^i%2=1
   ·have gF:((m/2^i:Nat):Int)%2=1:=by omega
    rw[if_pos hb]at hs
    generalize m/2^i=q at*
    repeat' (first|refine Z3 (Zj hh gF) ?_|refine Zt ?_|(refine Zk 0 [] ?_;refine Zl ?_)|(refine Yb rfl ?_ ?_<;>intro ab<;>(try simp at ab)<;>try exact dc)|refine Z6 (Zj hh gF) ?_|fail)
    refine hL _ _ hi ?_
    exact Le.drop (by dsimp only[aE,zN,zS];simp[hs])
   ·have gF: ¬((m/2^i:Nat):Int)%2=1:=by omega
    rw[if_neg hb]at hs
    generalize m/2^i=q at*
    repeat' (first|refine Z3 (Zj hh gF) ?_|refine Zt ?_|(refine Zk 0 [] ?_;refine Zl ?_)|(refine Yb rfl ?_ ?_<;>intro ab<;>(try simp at ab)<;>try exact dc)|refine Z6 (Zj hh gF) ?_|fail)
    refine hL _ _ hi ?_
    exact Le.drop (by dsimp only[aE,zN,zS];simp[hs])
  obtain rfl:i=16:=by omega
  have hle:=K7 m 16
  rw[hn]
  have e1:(1+((n:Int)+7)/8).toNat=1+(n+7)/8:=by omega
  have e2:8*(((n:Int)+7)/8)-n=((8*((n+7)/8)-n:Nat):Int):=by omega
  have e3: ∀k:Nat,k<256→V.int .u8 (k:Int)=aF (UInt8.ofNat k):=fun k hk=>by
   unfold aF;rw[show(UInt8.ofNat k).toNat=k from u8n k hk]
  have e4:((List.replicate (1+(n+7)/8) (V.int .u8 0)).set 0 (V.int .u8 ((8*((n+7)/8)-n:Nat):Int)))=(mX m n 0).map aF:=by
   rw[e3 _ (by omega)]
   simp[mX,arB,aF]
  repeat' (first|refine Z3 (Zj e1 e2) ?_|refine Zt ?_|(refine Zk 0 [] ?_;refine Zl ?_)|(refine Yb rfl ?_ ?_<;>intro ab<;>(try simp at ab)<;>try exact dc)|refine Z6 (Zj e1 e2) ?_|fail)
  refine aV (fun i=>(zN 2 (zS 2 (none::some V.aa::none::some (V.int .i64 i)::zS 54 [])))) (fun i=> [.live ((mX m n i).map aF)]) n ?_ fun i hi KL hL=>?_
  ·dsimp only[aE,zN,zS]
   exact Le.mk [some 0] (by simp) (aZ (by simp) (by rw[e4];simp[ae])) (by simp)
  dsimp only[aE,zN,zS]
  have eR:=ye m n i
  rcases apQ i n with hi|hi
  ·have hs:=Hk m n i
   have anK:=ye m n (i+1)
   have hh:(m:Int)/2^i=((m/2^i:Nat):Int):=by simp
   have SC:1+i/8<(mX m n i).length:=by omega
   obtain⟨b,hb⟩: ∃b,(mX m n i)[1+i/8]=b:=⟨_,rfl⟩
   rw[ap2,ap5 SC,arj,hb]at hs
   have ho:=or8 b.toNat b.toNat_lt (i%8) (by omega)
   have t1:(1+(i:Int)/8).toNat=1+i/8:=by omega
   have t2:((i:Int)%8).toNat=i%8:=by omega
   by_cases hq:m/2^i%2=1
   ·have gi:((m/2^i:Nat):Int)%2=1:=by omega
    rw[if_pos hq]at hs
    rw[hs]at hL
    generalize mX m n i=Q at*
    generalize m/2^i=q at*
    have aO:128/2^(i%8)<256:=arx (arP _ _) (by omega)
    have Sg:((b.toNat|||128/2^(i%8):Nat):Int)=((b|||UInt8.ofNat (128/2^(i%8))).toNat:Int):=by
     rw[UInt8.toNat_or,show(UInt8.ofNat (128/2^(i%8))).toNat=128/2^(i%8)from u8n _ aO]
    repeat' (first|refine Z3 (Zj hh (Zj gi (Zj eR (Zj hb (Zj t1 (Zj t2 ho)))))) ?_|refine Zt ?_|(refine Zk 0 [] ?_;refine Zl ?_)|(refine Yb rfl ?_ ?_<;>intro ab<;>(try simp at ab)<;>try exact dc)|refine Z6 (Zj hh (Zj gi (Zj eR (Zj hb (Zj t1 (Zj t2 ho)))))) ?_|fail)
    obtain⟨Q2,hQ2⟩: ∃Q2,Q.set (1+i/8) (b|||UInt8.ofNat (128/2^(i%8)))=Q2:=⟨_,rfl⟩
    rw[hQ2]at hL
    refine hL _ _ hi ?_
    have e:(Q.map aF).set (1+i/8) (.int .u8 ((b|||UInt8.ofNat (128/2^(i%8))).toNat:Int))=Q2.map aF:=by rw[←hQ2,arB];rfl
    exact Le.mk [some 0] (by dsimp only[aE,zN,zS];simp) (aZ (by simp) (by rw[Sg,e];simp[ae])) (by simp)
   ·have gi: ¬((m/2^i:Nat):Int)%2=1:=by omega
    rw[if_neg hq]at hs
    rw[hs]at hL
    generalize mX m n i=Q at*
    generalize m/2^i=q at*
    repeat' (first|refine Z3 (Zj hh gi) ?_|refine Zt ?_|(refine Zk 0 [] ?_;refine Zl ?_)|(refine Yb rfl ?_ ?_<;>intro ab<;>(try simp at ab)<;>try exact dc)|refine Z6 (Zj hh gi) ?_|fail)
    refine hL _ _ hi ?_
    exact Yr [some 0] (by simp[ae])
  obtain rfl:i=n:=by omega
  generalize mX m i i=Q at*
  have hB:List.take (1+(i+7)/8) Q=Q:=apR (by omega)
  have MR:=cS (l:=Q) (n:=1+(i+7)/8) (by omega)
  repeat' (first|refine Z3 (Zj hB MR) ?_|refine Zt ?_|(refine Zk 0 [] ?_;refine Zl ?_)|(refine Yb rfl ?_ ?_<;>intro ab<;>(try simp at ab)<;>try exact dc)|refine Z6 (Zj hB MR) ?_|fail)
  exact .pure (by simp)
 ·exact .aB (by simp)
end Go.Proofs.YtjlnoogcggdhkaaGreatDoor
