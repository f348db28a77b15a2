/-
 CONTRACTS: what a signature names; Verify.
 Conditions: none.
-/
import Derived.Test.YtjlnoogcggdhkaaGreatDoorGg
set_option maxRecDepth 100000
namespace Go.Proofs.YtjlnoogcggdhkaaGreatDoor
open Go.Proofs.Tryz
open Go.VS
set_option linter.all false
attribute [local irreducible] bj au aS bz gl eO
theorem Ee{a b:Nat}(i:Nat)(h1:a%2^i=0)(h2:b<2^i)(h3:a+b<4611686018427387904):bits .or .i64 (a:Int) (b:Int)=((a+b:Nat):Int):=by
 rw[(Go.VS.bits_nat (by simp;omega) (by simp;omega)).2.1]
 have e:a|||b=a+b:=by
  have:=Nat.two_pow_add_eq_or_of_lt h2 (a/2^i)
  rw[Nat.mul_div_cancel' (Nat.dvd_of_mod_eq_zero h1)]at this
  exact this.symm
 rw[e,wrap_i64 (by omega) (by omega)]
def acc(b:List UInt8):Nat→Nat
 |0=>0
 |k+1=>acc b k*256+(b.getD k 0).toNat
theorem Rz(b:List UInt8): ∀k,acc b k<256^k
 |0=>by simp[acc]
 |k+1=>by
  have h:=Rz b k
  have h2:(b.getD k 0).toNat<256:=aqk _
  rw[acc,ar4];omega
theorem Np(b:List UInt8)(k:Nat)(hk:k≤4):acc b k<4294967296:=aqJ (Rz b k) (aqD (Nat.pow_le_pow_right (by omega) hk) (by omega))
theorem aab(b:List UInt8)(k:Nat)(hk:k<4)(hb:k<b.length):bits .or .i64 ((acc b k:Int)*256) (b[k].toNat:Int)=(acc b (k+1):Int):=by
 have h:=Np b k (by omega)
 have h2:(b[k]).toNat<256:=aqk _
 have:=Ee (a:=acc b k*256) (b:=(b[k]).toNat) 8 (by omega) (by omega) (by omega)
 rw[acc,ap2,ap5 hb,←show((acc b k*256:Nat):Int)=(acc b k:Int)*256 by omega,this]
 rfl
theorem RA(s:List UInt8):(acc s 4:Int)=ey s:=by simp only[acc,ey];omega
theorem J3(s:List UInt8)(n:Nat): ∀k,k≤n→acc (s.take n) k=acc s k
 |0,_=>rfl
 |k+1,hk=>by
  rw[acc,acc,J3 s n k (by omega)]
  simp[ap2,show k<n by omega]
theorem RB(s:List UInt8)(hs:s.length≤140737488355328):ao prog 96 [.str s] (ly s):=by
 refine ah func96 rfl call96 ?_ ?_
 rotate_left 1
 refine af (s':=(.str s:V)::zJ 24) rfl ?_;dsimp only[zJ]
 by_cases h4:s.length<4
 ·have Ef:(s.length:Int)<4:=by omega
  repeat' (first|refine Z0 Ef ?_|refine Zt ?_|(refine Yb rfl ?_ ?_<;>intro ab<;>(try simp at ab)<;>try exact dc))
  rw[ly,if_pos h4]
  simp
  exact .pure (by simp)
 ·have Ef: ¬(s.length:Int)<4:=by omega
  have Jw:(s.take 4).length=4:=by simp;omega
  have ry:=RA s
  rw[←J3 s 4 4 (by omega)]at ry
  rw[ly,if_neg h4,←ry]
  repeat' (first|refine Z0 Ef ?_|refine Zt ?_|(refine Yb rfl ?_ ?_<;>intro ab<;>(try simp at ab)<;>try exact dc))
  refine aV (fun k=>(some V.aa::none::zS 2 (some (V.int .i64 (acc (s.take 4) k))::none::zS 6 (zN 2 (some (V.int .i64 k)::zS 10 []))))) (fun k=> [.live ((s.take 4).map aF)]) 4 ?_ fun k hk KL hL=>?_
  ·dsimp only[aE,zN,zS]
   exact Le.mk [some 0] (by simp[acc]) (aZ (by simp) (by simp[ae,C5])) (by simp)
  dsimp only[aE,zN,zS]
  generalize s.take 4=b at*
  have ha:=Np b k hk
  rcases apQ k 4 with hk|hk
  ·have ho:=aab b k hk (by omega)
   have h2:(b[k]).toNat<256:=aqk _
   repeat' (first|refine Z0 (Zj ho Jw) ?_|refine Zt ?_|(refine Yb rfl ?_ ?_<;>intro ab<;>(try simp at ab)<;>try exact dc))
   refine hL _ _ hk ?_
   exact Yr [some 0] (by simp[ae])
  obtain rfl:k=4:=by omega
  repeat' (first|refine Z0 Jw ?_|refine Zt ?_|(refine Yb rfl ?_ ?_<;>intro ab<;>(try simp at ab)<;>try exact dc))
  simp
  exact .pure (by simp)
 ·unfold ly;split<;>simp
theorem O2(s:List UInt8)(hs:s.length≤140737488355328):ao prog 56 [.str s] (ly s):=by
 refine ah func56 rfl call56 ?_ ?_
 rotate_left 1
 refine af (s':=(.str s:V)::zJ 24) rfl ?_;dsimp only[zJ]
 by_cases h4:s.length<4
 ·have Ef:(s.length:Int)<4:=by omega
  repeat' (first|refine Z0 Ef ?_|refine Zt ?_|(refine Zk 4 [] ?_;refine Zl ?_)|(refine Yb rfl ?_ ?_<;>intro ab<;>(try simp at ab)<;>try exact dc))
  rw[ly,if_pos h4]
  simp
  exact .pure (by simp)
 ·have Ef: ¬(s.length:Int)<4:=by omega
  obtain⟨a,b,c,d,t,rfl⟩: ∃a b c d t,s=a::b::c::d::t:=by
   match s,h4 with
   |a::b::c::d::t,_=>exact⟨a,b,c,d,t,rfl⟩
   |[],h=>simp at h
   |[_],h=>simp at h
   |[_,_],h=>simp at h
   |[_,_,_],h=>simp at h
  have ha:a.toNat<256:=aqk _
  have hb:b.toNat<256:=aqk _
  have hc:c.toNat<256:=aqk _
  have hd:d.toNat<256:=aqk _
  obtain⟨x1,e1⟩: ∃x:Nat,x=a.toNat*16777216+b.toNat*65536:=⟨_,rfl⟩
  obtain⟨x2,e2⟩: ∃x:Nat,x=x1+c.toNat*256:=⟨_,rfl⟩
  obtain⟨x3,e3⟩: ∃x:Nat,x=x2+d.toNat:=⟨_,rfl⟩
  have o1:bits .or .i64 ((a.toNat:Int)*16777216) ((b.toNat:Int)*65536)=(x1:Int):=by
   have:=Ee (a:=a.toNat*16777216) (b:=b.toNat*65536) 24 (by omega) (by omega) (by omega)
   rw[e1,←this];rfl
  have o2:bits .or .i64 (x1:Int) ((c.toNat:Int)*256)=(x2:Int):=by
   have:=Ee (a:=x1) (b:=c.toNat*256) 16 (by omega) (by omega) (by omega)
   rw[e2,←this];rfl
  have o3:bits .or .i64 (x2:Int) (d.toNat:Int)=(x3:Int):=by
   have:=Ee (a:=x2) (b:=d.toNat) 8 (by omega) (by omega) (by omega)
   rw[e3,←this]
  have hn:ey (a::b::c::d::t)=x3:=by simp only[ey,arH,List.getD_cons_succ];omega
  rw[ly,if_neg h4,hn]
  repeat' (first|refine Z0 (Zj Ef (Zj o1 (Zj o2 o3))) ?_|refine Zt ?_|(refine Zk 4 [] ?_;refine Zl ?_)|(refine Yb rfl ?_ ?_<;>intro ab<;>(try simp at ab)<;>try exact dc))
  simp
  exact .pure (by simp)
 ·unfold ly;split<;>simp
end Go.Proofs.YtjlnoogcggdhkaaGreatDoor
namespace Go.Proofs.YtjlnoogcggdhkaaGreatDoor
open Go.Proofs.Tryz
open Go.VS
set_option linter.all false
attribute [local irreducible] bj au aS bz gl eO ey lj
theorem J4{h:Int}{id root m s:List UInt8}(e:ks h id root≠0):lj h id root m s=18:=by rw[lj,if_pos e]
theorem Nq{h:Int}{id root:List UInt8}(e:ks h id root≠0):ks h id root=18:=by
 unfold ks at*;split at* <;>simp_all
theorem uW{h:Int}{id root m s:List UInt8}(e:ks h id root=0)(f:s.length≠564+16*h.toNat∨((2^h.toNat:Nat):Int)≤ey s):lj h id root m s=17:=by rw[lj,if_neg (by omega),if_pos f]
theorem WW(n k:Nat):(n:Int)/2^k=((n/2^k:Nat):Int):=by simp
set_option maxHeartbeats 4000000 in
theorem Lv(h:Int)(id root m s:List UInt8)(hi:id.length≤140737488355328)(hr:root.length≤140737488355328)(hm:m.length≤200000000)(hs:s.length≤140737488355328):
  ao prog 52 [.agg [.int .i64 h,.str id,.str root],.str m,.str s] (.int .i64 (lj h id root m s)):=by
 refine ah func52 rfl call52 ?_ ?_
 rotate_left 1
 refine af (s':=(.agg [.int .i64 h,.str id,.str root]:V)::(.str m:V)::(.str s:V)::zJ 92) rfl ?_;dsimp only[zJ]
 have wF:=O3 h id root hi hr
 by_cases hk:ks h id root=0
 ·obtain⟨k1,k2,k3,k4⟩:=GU hk
  rw[hk]at wF
  obtain⟨n,rfl⟩:=aqH k1
  have wG:=RB s hs
  have RC:n≤8:=by omega
  have j9:=Fy n RC
  have xQ:=pk RC
  by_cases hl:(s.length:Int)=564+n*16
  ·have yy:ly s=.aB [.int .i64 (ey s),.bool true]:=by rw[ly,if_neg (by omega)]
   rw[yy]at wG
   obtain⟨b1,b2⟩:=zH s
   by_cases hb:ey s<((2^n:Nat):Int)
   ·have RD:lj n id root m s=if gK id (s.drop 564) (ey s).toNat (kB id (ey s) (iR id (ey s) (gE id root (ey s) m) ((s.drop 4).take 560) 35)) n=root then 0 else 17:=by
     rw[lj,if_neg (by omega),aq4,if_neg (by omega)]
    obtain⟨f,hf⟩:=aqH b1
    rw[RD]
    rw[hf]at wG hb⊢
    have hdg:=J5 n id root f m (by omega) (by omega) hm
    have J6:=Iz id f (gE id root f m) ((s.drop 4).take 560) hi (by simp) (by simp;omega)
    have RE:lk id f (gE id root f m) ((s.drop 4).take 560)=.aB [.str (kB id f (iR id f (gE id root f m) ((s.drop 4).take 560) 35)),.int .i64 0]:=by
     rw[lk,if_neg (by unfold ew;rw[if_neg (by omega),if_neg (by omega)];omega),if_neg (by simp),if_neg (by simp;omega)]
    rw[RE]at J6
    have eR:(kB id f (iR id f (gE id root f m) ((s.drop 4).take 560) 35)).length=16:=by rw[kB,iB]
    rw[aq4]
    have ie:List.take (s.length-564) (List.drop 564 s)=List.drop 564 s:=apR (by simp)
    have vY:(List.drop 564 s).length=16*n:=by simp;omega
    obtain⟨v0,BF⟩: ∃v0,kB id f (iR id f (gE id root f m) ((s.drop 4).take 560) 35)=v0:=⟨_,rfl⟩
    rw[BF]at J6 eR⊢
    obtain⟨p,hp⟩: ∃p,2^n=p:=⟨_,rfl⟩
    rw[hp]at hb j9 xQ
    have gF:f<p:=by omega
    clear RE yy RD BF
    repeat' (first|refine Z1 (Zj hl (Zj gF (Zj j9 ie))) (Zj wF (Zj wG (Zj hdg J6))) ?_|refine Zt ?_|(refine Zk 0 [] ?_;refine Zl ?_)|(refine Yb rfl ?_ ?_<;>intro ab<;>(try simp at ab)<;>try exact dc))
    refine aV (fun k=>(zS 3 (zN 3 (zS 4 (some (V.str (gK id (s.drop 564) f v0 k))::some V.aa::none::some (V.int .i64 k)::some (V.int .i64 ((f/2^k:Nat):Int))::zS 80 []))))) (fun k=> [.live [.int .i64 n,.str id,.str root]]) n ?_ fun k hk KL hL=>?_
    ·dsimp only[aE,zN,zS]
     exact Le.mk [some 0] (by simp[gK]) (aZ (by simp) (by simp[ae])) (by simp)
    dsimp only[aE,zN,zS]
    have bZ:=zI id (s.drop 564) f v0 eR k
    rcases apQ k n with hk|hk
    ·have hq:f/2^k<256:=arx (arP _ _) (by omega)
     have RF:f/2^(k+1)=f/2^k/2:=by rw[ar4,Nat.div_div_eq_div_mul]
     have gq:gK id (s.drop 564) f v0 (k+1)=if f/2^k%2=0 then ln id (k:Int) ((f/2^k/2:Nat):Int) (gK id (s.drop 564) f v0 k) (tH (s.drop 564) k)else ln id (k:Int) ((f/2^k/2:Nat):Int) (tH (s.drop 564) k) (gK id (s.drop 564) f v0 k):=rfl
     have zK:(List.drop (16*k) (List.drop 564 s)).take 16=tH (s.drop 564) k:=rfl
     have afX:(tH (s.drop 564) k).length=16:=by simp[tH];omega
     rw[gq,RF]at hL
     clear gq
     generalize f/2^k=q at*
     generalize List.drop 564 s=rest at*
     generalize gK id rest f v0 k=c at*
     generalize tH rest k=sb at*
     have t1:((k:Int)*16).toNat=16*k:=by omega
     have t2:(((k:Int)+1)*16).toNat-16*k=16:=by omega
     by_cases J7:q%2=0
     ·rw[if_pos J7]at hL
      have pn:(q:Int)%2=0:=by omega
      have rq:=BR id k ((q/2:Nat):Int) c sb (by omega) (by omega) (by omega)
      repeat' (first|refine Z1 (Zj pn (Zj t1 (Zj t2 zK))) rq ?_|refine Zt ?_|(refine Zk 0 [] ?_;refine Zl ?_)|(refine Yb rfl ?_ ?_<;>intro ab<;>(try simp at ab)<;>try exact dc))
      refine hL _ _ hk ?_
      exact Yr [some 0] (by simp[ae])
     ·rw[if_neg J7]at hL
      have pn:(q:Int)%2=1:=by omega
      have rq:=BR id k ((q/2:Nat):Int) sb c (by omega) (by omega) (by omega)
      repeat' (first|refine Z1 (Zj pn (Zj t1 (Zj t2 zK))) rq ?_|refine Zt ?_|(refine Zk 0 [] ?_;refine Zl ?_)|(refine Yb rfl ?_ ?_<;>intro ab<;>(try simp at ab)<;>try exact dc))
      refine hL _ _ hk ?_
      exact Yr [some 0] (by simp[ae])
    obtain rfl:k=n:=by omega
    by_cases po:gK id (s.drop 564) f v0 k=root
    ·repeat' (first|refine Z0 po ?_|refine Zt ?_|(refine Zk 0 [] ?_;refine Zl ?_)|(refine Yb rfl ?_ ?_<;>intro ab<;>(try simp at ab)<;>try exact dc))
     simp[po]
     exact .pure .int
    ·repeat' (first|refine Z0 po ?_|refine Zt ?_|(refine Zk 0 [] ?_;refine Zl ?_)|(refine Yb rfl ?_ ?_<;>intro ab<;>(try simp at ab)<;>try exact dc))
     simp[po]
     exact .pure .int
   ·rw[uW hk (by right;rw[aq4];omega)]
    obtain⟨f,hf⟩:=aqH b1
    rw[hf]at wG hb
    obtain⟨p,hp⟩: ∃p,2^n=p:=⟨_,rfl⟩
    rw[hp]at hb j9 xQ
    have gF: ¬f<p:=by omega
    clear yy
    repeat' (first|refine Z1 (Zj hl (Zj gF j9)) (Zj wF wG) ?_|refine Zt ?_|(refine Zk 0 [] ?_;refine Zl ?_)|(refine Yb rfl ?_ ?_<;>intro ab<;>(try simp at ab)<;>try exact dc))
    simp
    exact .pure .int
  ·rw[uW hk (by left;omega)]
   repeat' (first|refine Z1 hl wF ?_|refine Zt ?_|(refine Zk 0 [] ?_;refine Zl ?_)|(refine Yb rfl ?_ ?_<;>intro ab<;>(try simp at ab)<;>try exact dc))
   simp
   exact .pure .int
 ·rw[J4 hk]
  rw[Nq hk]at wF
  repeat' (first|refine Z2 wF ?_|refine Zt ?_|(refine Zk 0 [] ?_;refine Zl ?_)|(refine Yb rfl ?_ ?_<;>intro ab<;>(try simp at ab)<;>try exact dc))
  simp
  exact .pure .int
 ·exact .int
end Go.Proofs.YtjlnoogcggdhkaaGreatDoor
namespace Go.Proofs.YtjlnoogcggdhkaaGreatDoor
open Go.Proofs.Tryz
open Go.VS
set_option linter.all false
attribute [local irreducible] bj au aS bz gl eO ey lj
set_option maxHeartbeats 4000000 in
theorem Ih(h:Int)(id root m s:List UInt8)(hi:id.length≤140737488355328)(hr:root.length≤140737488355328)(hm:m.length≤200000000)(hs:s.length≤140737488355328):
  ao prog 30 [.agg [.int .i64 h,.str id,.str root],.str m,.str s] (.int .i64 (lj h id root m s)):=by
 refine ah func30 rfl call30 ?_ ?_
 rotate_left 1
 refine af (s':=(.agg [.int .i64 h,.str id,.str root]:V)::(.str m:V)::(.str s:V)::zJ 106) rfl ?_;dsimp only[zJ]
 have wF:=Fz h id root hi hr
 by_cases hk:ks h id root=0
 ·obtain⟨k1,k2,k3,k4⟩:=GU hk
  rw[hk]at wF
  obtain⟨n,rfl⟩:=aqH k1
  have wG:=O2 s hs
  have RC:n≤8:=by omega
  have j9:=Fy n RC
  have xQ:=pk RC
  by_cases hl:(s.length:Int)=564+n*16
  ·have yy:ly s=.aB [.int .i64 (ey s),.bool true]:=by rw[ly,if_neg (by omega)]
   rw[yy]at wG
   obtain⟨b1,b2⟩:=zH s
   by_cases hb:ey s<((2^n:Nat):Int)
   ·have RD:lj n id root m s=if gK id (s.drop 564) (ey s).toNat (kB id (ey s) (iR id (ey s) (gE id root (ey s) m) ((s.drop 4).take 560) 35)) n=root then 0 else 17:=by
     rw[lj,if_neg (by omega),aq4,if_neg (by omega)]
    obtain⟨f,hf⟩:=aqH b1
    rw[RD]
    rw[hf]at wG hb⊢
    have J6:=HB id f (gE id root f m) ((s.drop 4).take 560) hi (by simp) (by simp;omega)
    have RE:lk id f (gE id root f m) ((s.drop 4).take 560)=.aB [.str (kB id f (iR id f (gE id root f m) ((s.drop 4).take 560) 35)),.int .i64 0]:=by
     rw[lk,if_neg (by unfold ew;rw[if_neg (by omega),if_neg (by omega)];omega),if_neg (by simp),if_neg (by simp;omega)]
    rw[RE]at J6
    have eR:(kB id f (iR id f (gE id root f m) ((s.drop 4).take 560) 35)).length=16:=by rw[kB,iB]
    rw[aq4]
    have ie:List.take (s.length-564) (List.drop 564 s)=List.drop 564 s:=apR (by simp)
    have vY:(List.drop 564 s).length=16*n:=by simp;omega
    obtain⟨v0,BF⟩: ∃v0,kB id f (iR id f (gE id root f m) ((s.drop 4).take 560) 35)=v0:=⟨_,rfl⟩
    rw[BF]at J6 eR⊢
    obtain⟨p,hp⟩: ∃p,2^n=p:=⟨_,rfl⟩
    rw[hp]at hb j9 xQ
    have gF:f<p:=by omega
    clear RE yy RD BF
    have nE:=fS [[77],id,root,cg f,m] (by simp) (by simp;omega)
    rw[show eO [[77],id,root,cg f,m].flatten=gE id root f m by simp[gE]]at nE
    repeat' (first|((first|refine Zu ?_|(refine Zv ?_ ?_;(focus (simp[hl,gF,j9];done))));intro K9 h9;simp(disch:=first|exact dd|fail) [hl,gF,j9];refine Zm ?_;((first|refine Ap wF ?_|refine Ap wG ?_|refine Ap (jJ _) ?_|refine aI nE ⟨bK rfl (by simp) (by simp),trivial⟩ .str ?_|refine Ap J6 ?_|skip)<;>(refine Zf h9 ?_;clear h9 K9)))|refine Zt ?_|(refine Zk 1 [] ?_;refine Zl ?_)|(refine Yb rfl ?_ ?_<;>intro ab<;>(try simp at ab)<;>try exact dc)|refine Z6 (Zj hl (Zj gF j9)) ?_|fail)
    refine aV (fun k=>(zS 2 (zN 4 (zS 2 (zN 2 (some V.aa::some (V.str (gK id (s.drop 564) f v0 k))::some V.aa::some (V.int .i64 k)::zS 95 [])))))) (fun k=> [.live [.int .i64 n,.str id,.str root]]) n ?_ fun k hk KL hL=>?_
    ·dsimp only[aE,zN,zS]
     exact Le.mk [some 0] (by simp[gK]) (aZ (by simp) (by simp[ae])) (by simp)
    dsimp only[aE,zN,zS]
    have bZ:=zI id (s.drop 564) f v0 eR k
    rcases apQ k n with hk|hk
    ·have hq:f/2^k<256:=arx (arP _ _) (by omega)
     have gq:gK id (s.drop 564) f v0 (k+1)=if f/2^k%2=0 then ln id (k:Int) ((f/2^k/2:Nat):Int) (gK id (s.drop 564) f v0 k) (tH (s.drop 564) k)else ln id (k:Int) ((f/2^k/2:Nat):Int) (tH (s.drop 564) k) (gK id (s.drop 564) f v0 k):=rfl
     have zK:(List.drop (564+16*k) s).take 16=tH (s.drop 564) k:=by rw[tH,aq3]
     have afX:(tH (s.drop 564) k).length=16:=by simp[tH];omega
     rw[gq]at hL
     clear gq
     generalize Is:f/2^k=q at*
     generalize List.drop 564 s=rest at*
     generalize gK id rest f v0 k=c at*
     generalize tH rest k=sb at*
     have CN:=WW f k
     rw[Is]at CN
     have t1:((564:Int)+(k:Int)*16).toNat=564+16*k:=by omega
     have t2:((564:Int)+((k:Int)+1)*16).toNat-(564+16*k)=16:=by omega
     by_cases J7:q%2=0
     ·rw[if_pos J7]at hL
      have pn:(q:Int)%2=0:=by omega
      have RG:=fS [[78],id,lI k,cg ((q:Int)/2),c,sb] (by simp) (by simp;omega)
      rw[show eO [[78],id,lI k,cg ((q:Int)/2),c,sb].flatten=ln id k ((q/2:Nat):Int) c sb by simp[ln]]at RG
      repeat' (first|((first|refine Zu ?_|(refine Zv ?_ ?_;(focus (simp[pn,t1,t2,zK,CN];done))));intro K9 h9;simp(disch:=first|exact dd|fail) [pn,t1,t2,zK,CN];refine Zm ?_;((first|refine Ap (jJ _) ?_|refine Ap (sQ _) ?_|refine aI RG ⟨bK rfl (by simp) (by simp),trivial⟩ .str ?_|skip)<;>(refine Zf h9 ?_;clear h9 K9)))|refine Zt ?_|(refine Zk 1 [] ?_;refine Zl ?_)|(refine Yb rfl ?_ ?_<;>intro ab<;>(try simp at ab)<;>try exact dc)|refine Z6 (Zj pn (Zj t1 (Zj t2 (Zj zK CN)))) ?_|fail)
      refine hL _ _ hk ?_
      exact Yr [some 0] (by simp[ae])
     ·rw[if_neg J7]at hL
      have pn:(q:Int)%2=1:=by omega
      have RG:=fS [[78],id,lI k,cg ((q:Int)/2),sb,c] (by simp) (by simp;omega)
      rw[show eO [[78],id,lI k,cg ((q:Int)/2),sb,c].flatten=ln id k ((q/2:Nat):Int) sb c by simp[ln]]at RG
      repeat' (first|((first|refine Zu ?_|(refine Zv ?_ ?_;(focus (simp[pn,t1,t2,zK,CN];done))));intro K9 h9;simp(disch:=first|exact dd|fail) [pn,t1,t2,zK,CN];refine Zm ?_;((first|refine Ap (jJ _) ?_|refine Ap (sQ _) ?_|refine aI RG ⟨bK rfl (by simp) (by simp),trivial⟩ .str ?_|skip)<;>(refine Zf h9 ?_;clear h9 K9)))|refine Zt ?_|(refine Zk 1 [] ?_;refine Zl ?_)|(refine Yb rfl ?_ ?_<;>intro ab<;>(try simp at ab)<;>try exact dc)|refine Z6 (Zj pn (Zj t1 (Zj t2 (Zj zK CN)))) ?_|fail)
      refine hL _ _ hk ?_
      exact Yr [some 0] (by simp[ae])
    obtain rfl:k=n:=by omega
    by_cases po:gK id (s.drop 564) f v0 k=root
    ·repeat' (first|refine Z3 po ?_|refine Zt ?_|(refine Zk 1 [] ?_;refine Zl ?_)|(refine Yb rfl ?_ ?_<;>intro ab<;>(try simp at ab)<;>try exact dc)|refine Z6 po ?_|fail)
     simp[po]
     exact .pure .int
    ·repeat' (first|refine Z3 po ?_|refine Zt ?_|(refine Zk 1 [] ?_;refine Zl ?_)|(refine Yb rfl ?_ ?_<;>intro ab<;>(try simp at ab)<;>try exact dc)|refine Z6 po ?_|fail)
     simp[po]
     exact .pure .int
   ·rw[uW hk (by right;rw[aq4];omega)]
    obtain⟨f,hf⟩:=aqH b1
    rw[hf]at wG hb
    obtain⟨p,hp⟩: ∃p,2^n=p:=⟨_,rfl⟩
    rw[hp]at hb j9 xQ
    have gF: ¬f<p:=by omega
    clear yy
    repeat' (first|refine Z4 (Zj hl (Zj gF j9)) (Zj wF wG) ?_|refine Zt ?_|(refine Zk 1 [] ?_;refine Zl ?_)|(refine Yb rfl ?_ ?_<;>intro ab<;>(try simp at ab)<;>try exact dc)|refine Z6 (Zj hl (Zj gF j9)) ?_|fail)
    (try simp)
    exact .pure .int
  ·rw[uW hk (by left;omega)]
   obtain⟨x,y,yy⟩: ∃x y,ly s=.aB [.int .i64 x,.bool y]:=by
    unfold ly;split
    ·exact⟨_,_,rfl⟩
    ·exact⟨_,_,rfl⟩
   rw[yy]at wG
   clear yy
   repeat' (first|refine Z4 hl (Zj wF wG) ?_|refine Zt ?_|(refine Zk 1 [] ?_;refine Zl ?_)|(refine Yb rfl ?_ ?_<;>intro ab<;>(try simp at ab)<;>try exact dc)|refine Z6 hl ?_|fail)
   (try simp)
   exact .pure .int
 ·rw[J4 hk]
  rw[Nq hk]at wF
  repeat' (first|refine Z5 wF ?_|refine Zt ?_|(refine Zk 1 [] ?_;refine Zl ?_)|(refine Yb rfl ?_ ?_<;>intro ab<;>(try simp at ab)<;>try exact dc)|refine Zo ?_|fail)
  (try simp)
  exact .pure .int
 ·exact .int
end Go.Proofs.YtjlnoogcggdhkaaGreatDoor
namespace Go.Proofs.YtjlnoogcggdhkaaGreatDoor
open Go.Proofs.Tryz
open Go.VS
set_option linter.all false
attribute [local irreducible] bj au aS bz gl eO
def ow(ai:List UInt8)(h:Nat):V:=.agg [.str ai,.str (ck ai),.sl (h+1) (kT ai h (h+1))]
@[simp] theorem afY(ai:List UInt8)(h:Nat):(ow ai h).Pure:=by simp[ow]
set_option maxHeartbeats 4000000 in
theorem FA(ai:List UInt8)(h:Nat)(hs:ai.length=32)(hh:h≤8):ao prog 92 [.str ai,.int .i64 h] (.aB [ow ai h,.int .i64 0]):=by
 refine ah func92 rfl call92 ?_ ?_
 rotate_left 1
 refine af (s':=(.str ai:V)::(.int .i64 h:V)::zJ 93) rfl ?_;dsimp only[zJ]
 have j9:=Fy h hh
 have xQ:=pk hh
 have hid:=xR ai
 obtain⟨p,hp⟩: ∃p,2^h=p:=⟨_,rfl⟩
 have Ng:lvl (ck ai) ai h 0=yz (ck ai) ai p:=by rw[lvl,hp]
 rw[hp]at j9 xQ
 have nE:=fS [[73],ai] (by simp) (by simp;omega)
 rw[show eO [[73],ai].flatten=ck ai by simp[ck]]at nE
 repeat' (first|((first|refine Zu ?_|(refine Zv ?_ ?_;(focus (simp[hs];done))));intro K9 h9;simp(disch:=first|exact dd|fail) [hs];refine Zm ?_;((first|refine aI nE ⟨bK rfl (by simp) (by simp),trivial⟩ .str ?_|skip)<;>(refine Zf h9 ?_;clear h9 K9)))|refine Zt ?_|(refine Zk 3 [] ?_;refine Zl ?_)|(refine Yb rfl ?_ ?_<;>intro ab<;>(try simp at ab)<;>try exact dc)|refine Z6 hs ?_|fail)
 refine aV (fun k=>(zN 5 (some V.aa::some (V.ref 1 0)::some (V.av 2 0 k 1)::some (V.int .i64 k)::zS 86 []))) (fun k=> [.live [.str [],.str [],.aj],.live [.str ai,.str (ck ai),.aj],.live ((yz (ck ai) ai k).map V.str)]) p ?_ fun k hk KL hL=>?_
 ·dsimp only[aE,zN,zS]
  exact Yr [some 0,some 2,none] (by simp[ae,yz])
 dsimp only[aE,zN,zS]
 have e4:List.take k (List.map V.str (yz (ck ai) ai k))=List.map V.str (yz (ck ai) ai k):=apR (by simp)
 rcases apQ k p with hk|hk
 ·have hpv:=RH (ck ai) ai k hid hs (by omega)
  have wx:=Hz (ck ai) ai k (by simp) (by omega)
  rw[hpv]at wx
  clear hpv
  repeat' (first|refine Z4 (Zj j9 e4) wx ?_|refine Zt ?_|(refine Zk 3 [] ?_;refine Zl ?_)|(refine Yb rfl ?_ ?_<;>intro ab<;>(try simp at ab)<;>try exact dc)|refine Z6 (Zj j9 e4) ?_|fail)
  refine hL _ _ hk ?_
  exact Yr [some 0,some 1,some 4] (by simp[ae,Uf])
 obtain rfl:k=p:=by omega
 refine iz 2 rfl (by simp) (by simp[fz,e4];rfl) (by simp[im,fz];rfl) ?_
 repeat' (first|refine Z3 j9 ?_|refine Zt ?_|(refine Zk 3 [] ?_;refine Zl ?_)|(refine Yb rfl ?_ ?_<;>intro ab<;>(try simp at ab)<;>try exact dc)|refine Z6 j9 ?_|fail)
 refine aV (fun l=>(some V.aa::zN 4 (some V.aa::none::some (pq (lvl (ck ai) ai h l))::zS 3 (some (V.int .i64 l)::zS 83 [])))) (fun l=> [.live [.str [],.str [],.aj],.live [.str ai,.str (ck ai),.av 2 0 (l+1) 1],.live (kT ai h (l+1))]) h ?_ fun l hl KO hO=>?_
 ·dsimp only[aE,zN,zS]
  exact Le.mk [some 0,some 1,some 4] (by simp[pq,Ng]) (aZ (by simp) (by simp[ae,az,kT,pq,Ng])) (by simp)
 dsimp only[aE,zN,zS]
 have e5:List.take (l+1) (kT ai h (l+1))=kT ai h (l+1):=apR (by simp)
 rcases apQ l h with hl|hl
 ·have hlen:=mF (ck ai) ai h l (by omega)
  have gp:=J8 (ck ai) ai h l
  have eR:(lvl (ck ai) ai h l).length≤256:=by rw[hlen];exact pk (by omega)
  have dV:=RI ai h (l+1)
  rw[show lvl (ck ai) ai h (l+1)=nx (ck ai) l (lvl (ck ai) ai h l) ((lvl (ck ai) ai h l).length/2)from rfl]at dV hO
  have pK:(kT ai h (l+1)).all V.one=true:=by
   rw[ap1];intro x hx;obtain⟨j,-,rfl⟩:=aqd.1 hx;rfl
  have VG:=Eg ai h (l+1)
  have vV:=L7 ai h (l+1)
  rw[dV]at hO
  generalize lvl (ck ai) ai h l=L at*
  generalize kT ai h (l+1)=Z at*
  unfold pq
  repeat' (first|refine Zr ?_|refine Zt ?_|(refine Zk 3 [] ?_;refine Zl ?_)|(refine Yb rfl ?_ ?_<;>intro ab<;>(try simp at ab)<;>try exact dc)|refine Zo ?_|fail)
  refine aV (fun k=>(some V.aa::zN 4 (some V.aa::zN 2 (zS 3 (none::some (V.av 3 0 k 1)::some (V.int .i64 ((2*k:Nat):Int))::zS 81 []))))) (fun k=> [.live [.str [],.str [],.aj],.live [.str ai,.str (ck ai),.av 2 0 (l+1) 1],.live Z,.live ((nx (ck ai) l L k).map V.str)]) (L.length/2) ?_ fun k hk KL hL=>?_
  ·dsimp only[aE,zN,zS]
   exact Yr [some 0,some 1,some 2,none] (by simp[ae,az,VG,nx])
  dsimp only[aE,zN,zS]
  have e6:List.take k (List.map V.str (nx (ck ai) l L k))=List.map V.str (nx (ck ai) l L k):=apR (by simp)
  rcases apQ k (L.length/2)with hk|hk
  ·have b1:2*k<L.length:=by omega
   have b2:2*k+1<L.length:=by omega
   have hn:=WX (ck ai) l L k
   rw[CO b1,CO b2]at hn
   have q1:=gp _ (apY b1)
   have q2:=gp _ (apY b2)
   have t1:((2:Int)*(k:Int)).toNat=2*k:=by omega
   have t2:((2:Int)*(k:Int)+1).toNat=2*k+1:=by omega
   have t3:((2:Int)*(k:Int))/2=k:=by omega
   have vZ:=fS [[78],ck ai,lI l,cg k,L[2*k],L[2*k+1]] (by simp) (by simp;omega)
   rw[show eO [[78],ck ai,lI l,cg k,L[2*k],L[2*k+1]].flatten=ln (ck ai) l k L[2*k] L[2*k+1] by simp[ln]]at vZ
   repeat' (first|((first|refine Zu ?_|(refine Zv ?_ ?_;(focus (simp[e6,t1,t2,t3];done))));intro K9 h9;simp(disch:=first|exact dd|fail) [e6,t1,t2,t3];refine Zm ?_;((first|refine Ap (jJ _) ?_|refine Ap (sQ _) ?_|refine aI vZ ⟨bK rfl (by simp) (by simp),trivial⟩ .str ?_|skip)<;>(refine Zf h9 ?_;clear h9 K9)))|refine Zt ?_|(refine Zk 3 [] ?_;refine Zl ?_)|(refine Yb rfl ?_ ?_<;>intro ab<;>(try simp at ab)<;>try exact dc)|refine Z6 (Zj e6 (Zj t1 (Zj t2 t3))) ?_|fail)
   refine hL _ _ hk ?_
   exact Yr [some 0,some 1,some 2,some 6] (by simp[ae,az,VG,hn])
  obtain rfl:k=L.length/2:=by omega
  refine iz 3 rfl (by simp) (by simp[fz,e6];rfl) (by simp[im,fz,yY VG];rfl) ?_
  repeat' (first|refine Z3 (Zj e5 (Zj vV pK)) ?_|refine Zt ?_|(refine Zk 3 [] ?_;refine Zl ?_)|(refine Yb rfl ?_ ?_<;>intro ab<;>(try simp at ab)<;>try exact dc)|refine Z6 (Zj e5 (Zj vV pK)) ?_|fail)
  refine hO _ _ hl ?_
  exact Le.mk [some 0,some 1,some 5] (by dsimp only[aE,zN,zS];simp[pq]) (aZ (by simp) (by simp[ae,az,VG,pq])) (by simp)
 obtain rfl:l=h:=by omega
 refine iz 2 rfl (Eg ai l (l+1)) (by simp[fz,e5];rfl) (by simp[im,fz,e5];rfl) ?_
 repeat' (first|refine Zr ?_|refine Zt ?_|(refine Zk 3 [] ?_;refine Zl ?_)|(refine Yb rfl ?_ ?_<;>intro ab<;>(try simp at ab)<;>try exact dc)|refine Zo ?_|fail)
 simp[ow]
 exact .pure (by simp)
 ·simp
end Go.Proofs.YtjlnoogcggdhkaaGreatDoor
namespace Go.Proofs.YtjlnoogcggdhkaaGreatDoor
open Go.Proofs.Tryz
open Go.VS
set_option linter.all false
attribute [local irreducible] bj au aS bz gl eO
theorem zL(ai:List UInt8)(h k l:Nat)(hl:l<k):(kT ai h k)[l]'(by simpa using hl)=.sl (lvl (ck ai) ai h l).length ((lvl (ck ai) ai h l).map V.str):=by
 have:=Ug ai h k l hl
 rw[ap5 (by simpa using hl)]at this
 exact apO this
theorem Uh(ai:List UInt8)(h:Nat):(kT ai h (h+1))[h]'(by simp)=.sl 1 [.str (jB (ck ai) ai h)]:=by
 rw[zL ai h (h+1) h (by omega),WY];rfl
theorem DS(ai:List UInt8)(h:Nat)(hh:h≤8):ao prog 72 [ow ai h] (CD h (ck ai) (jB (ck ai) ai h)):=by
 refine ah func72 rfl call72 ?_ ?_
 rotate_left 1
 refine af (s':=(ow ai h:V)::zJ 18) rfl ?_;dsimp only[zJ]
 have hg:=Uh ai h
 unfold ow
 repeat' (first|refine Z0 hg ?_|refine Zt ?_|(refine Zk 0 [] ?_;refine Zl ?_)|fail)
 ·simp[CD]
  exact .pure (by simp)
 ·simp
theorem Q5(k:Int)(h:Nat)(hh:h≤8):ao prog 49 [.int .i64 k,.int .i64 h] (ow (fD k) h):=by
 refine ah func49 rfl call49 ?_ ?_
 rotate_left 1
 refine af (s':=(.int .i64 k:V)::(.int .i64 h:V)::zJ 13) rfl ?_;dsimp only[zJ]
 have hrg:=FA (fD k) h (by simp) hh
 unfold ow at*
 repeat' (first|(refine Zu ?_;intro K9 h9;refine Zd ?_;((first|refine Ap (N9 _) ?_|refine Ap hrg ?_|skip)<;>(refine Zf h9 ?_;clear h9 K9)))|refine Zt ?_|fail)
 ·simp
  exact .pure (by simp)
 ·simp
set_option maxHeartbeats 4000000 in
theorem HE(ai:List UInt8)(h:Nat)(leaf:Nat)(m:List UInt8)(hs:ai.length=32)(hh:h≤8)(hf:leaf<2^h)(hm:m.length≤200000000):
  ao prog 43 [ow ai h,.int .i64 leaf,.str m] (.aB [.str (FB ai h leaf m),.int .i64 0]):=by
 refine ah func43 rfl call43 ?_ ?_
 rotate_left 1
 refine af (s':=(ow ai h:V)::(.int .i64 leaf:V)::(.str m:V)::zJ 66) rfl ?_;dsimp only[zJ]
 have xQ:=pk hh
 have hv:=WZ (ck ai) ai leaf (gE (ck ai) (jB (ck ai) ai h) leaf m) (xR ai) hs (by omega) (L8 _ _ _ _)
 have np:=Oa (ck ai) ai leaf (gE (ck ai) (jB (ck ai) ai h) leaf m) (by simp) (by omega) (by simp)
 rw[hv]at np
 have vV:=yU (ck ai) ai leaf (gE (ck ai) (jB (ck ai) ai h) leaf m) 35
 have hS:FB ai h leaf m=cg leaf++vF (ck ai) ai leaf (gE (ck ai) (jB (ck ai) ai h) leaf m) 35++zM (ck ai) ai h leaf h:=rfl
 obtain⟨ov,hov⟩: ∃ov,vF (ck ai) ai leaf (gE (ck ai) (jB (ck ai) ai h) leaf m) 35=ov:=⟨_,rfl⟩
 rw[hov]at np vV hS
 rw[hS]
 clear hv hov hS
 have dY: ∀k,k<h→xr (leaf/2^k)<2^(h-k):=fun k hk=>VH hk hf
 have hq: ∀k,leaf/2^k<256:=fun k=>arx (arP _ _) (by omega)
 have RJ:=zL ai h (h+1) 0 (by omega)
 have Ng:=mF (ck ai) ai h 0 (by omega)
 rw[Ng,Nat.sub_zero]at RJ
 have hko:=DS ai h hh
 have nE:=fS [[77],ck ai,jB (ck ai) ai h,cg leaf,m] (by simp) (by simp;omega)
 rw[show eO [[77],ck ai,jB (ck ai) ai h,cg leaf,m].flatten=gE (ck ai) (jB (ck ai) ai h) leaf m by simp[gE]]at nE
 have XY:leaf<2^h:=hf
 obtain⟨p,hp⟩: ∃p,2^h=p:=⟨_,rfl⟩
 rw[hp]at RJ xQ hf
 unfold ow CD at*
 repeat' (first|((first|refine Zu ?_|(refine Zv ?_ ?_;(focus (simp[RJ];done))));intro K9 h9;simp(disch:=first|exact dd|fail) [RJ];refine Zm ?_;((first|refine Ap hko ?_|refine Ap (jJ _) ?_|refine aI nE ⟨bK rfl (by simp) (by simp),trivial⟩ .str ?_|refine Ap np ?_|skip)<;>(refine Zf h9 ?_;clear h9 K9)))|refine Zt ?_|(refine Zk 1 [] ?_;refine Zl ?_)|(refine Yb rfl ?_ ?_<;>intro ab<;>(try simp at ab)<;>try exact dc)|refine Z6 RJ ?_|fail)
 refine aV (fun k=>(zS 3 (zN 3 (zS 2 (none::some (V.str (cg leaf++ov++zM (ck ai) ai h leaf k))::some V.aa::some (V.int .i64 k)::some (V.int .i64 ((leaf/2^k:Nat):Int))::zS 56 []))))) (fun k=> [.live [.str ai,.str (ck ai),.sl (h+1) (kT ai h (h+1))],.live [.int .i64 h,.str (ck ai),.str (jB (ck ai) ai h)]]) h ?_ fun k hk KL hL=>?_
 ·dsimp only[aE,zN,zS]
  exact Le.mk [some 0,some 1] (by simp[zM]) (aZ (by simp) (by simp[ae])) (by simp)
 dsimp only[aE,zN,zS]
 have ry:=vr (ck ai) ai h leaf XY k hk
 rcases apQ k h with hk|hk
 ·have tI:=zL ai h (h+1) k (by omega)
  have eu:=mF (ck ai) ai h k (by omega)
  have gp:=J8 (ck ai) ai h k
  have qP:=dY k hk
  have hb:=W0 (leaf/2^k) (hq k)
  have hqk:=hq k
  have ha:=GV (ck ai) ai h leaf k
  have RF:leaf/2^(k+1)=leaf/2^k/2:=by rw[ar4,Nat.div_div_eq_div_mul]
  unfold node at ha
  rw[RF,ha]at hL
  generalize lvl (ck ai) ai h k=L at*
  generalize leaf/2^k=q at*
  have b1:xr q<L.length:=by omega
  rw[CO b1]at hL
  have q1:=gp _ (apY b1)
  generalize xr q=y at*
  repeat' (first|refine Z3 (Zj tI hb) ?_|refine Zt ?_|(refine Zk 1 [] ?_;refine Zl ?_)|(refine Yb rfl ?_ ?_<;>intro ab<;>(try simp at ab)<;>try exact dc)|refine Z6 (Zj tI hb) ?_|fail)
  refine hL _ _ hk ?_
  exact Yr [some 0,some 1] (by simp[ae])
 obtain rfl:k=h:=by omega
 repeat' (first|refine Zr ?_|refine Zt ?_|(refine Zk 1 [] ?_;refine Zl ?_)|(refine Yb rfl ?_ ?_<;>intro ab<;>(try simp at ab)<;>try exact dc)|refine Zo ?_|fail)
 simp
 exact .pure (by simp)
 ·simp
end Go.Proofs.YtjlnoogcggdhkaaGreatDoor
