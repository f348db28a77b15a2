/-
 WEAK: nested elements checked, named bits read by the reference from whatever strings.
 Conditions: none.
-/
import Derived.Test.YtjlnoogcggdhkaaGreatDoorJh
set_option maxRecDepth 100000
set_option maxHeartbeats 32000000
set_option linter.all false
namespace Go.Wk
open Go.VS
def NX(v:V):Prop:= ∃er:Int,v=.int .i64 er
structure Qe (m : Int) : Prop where
 lo: -9223372036854775808≤m
 hi:m≤9223372036854775807
def Qf(v:V):Prop:= ∃m er:Int,v=.aB [.int .i64 m,.int .i64 er]∧Qe m
theorem wrap64(n:Int): -9223372036854775808≤IntKind.i64.wrap n∧IntKind.i64.wrap n≤9223372036854775807:=by
 simp[IntKind.wrap,IntKind.min,IntKind.max,IntKind.signed,IntKind.bits]<;>(try split)<;>omega
theorem YA(o:BinOp)(m n:Int):Qe (bits o .i64 m n):=by unfold bits;exact⟨(wrap64 _).1,(wrap64 _).2⟩
theorem yM:Qe 0:=⟨by decide,by decide⟩
end Go.Wk
namespace Go.Proofs.YtjlnoogcggdhkaaGreatDoor
open Go.Proofs.Tryz
open Go.VS Go.Wk
attribute [local irreducible] bj au bE aS bz
theorem LC: ∀(j d:Nat) (t:Int) (c r:Bs),j+d=15→c.length≤1000000000→EP prog 211 [.agg [.int .i64 t,.str c,.str r],.int .i64 d] NX:=by
 intro j
 induction j with
 |zero=>
  intro d t c r hj hc
  obtain rfl:d=15:=by omega
  obtain⟨Q,hQ⟩: ∃Q,NX=Q:=⟨_,rfl⟩
  have qe: ∀er:Int,Q (.int .i64 er):=fun er=>hQ▸⟨er,rfl⟩
  rw[hQ]
  clear hQ
  refine cR func211 rfl call211 ?_
  refine af (s':=(.agg [.int .i64 t,.str c,.str r]:V)::(.int .i64 (15:Nat):V)::zJ 38) rfl ?_;dsimp only[zJ]
  repeat' (first|refine Zq ?_|refine Zt ?_|(refine Yb rfl ?_ ?_<;>intro ab<;>(try simp at ab)<;>try exact dc))
  all_goals(try(simp;exact⟨_,qe _,by simp,.pure (by simp)⟩))
  refine bm (α:=Bs) (fun x=>(some V.aa::none::some V.aa::none::some V.aa::some (V.str x)::zS 34 [])) (fun _=> [.live [.int .i64 t,.str c,.str r]]) (fun x=>x.length≤c.length) (fun x=>x.length) c (by simp) ?_ ?_
  ·dsimp only[aE,zN,zS]
   exact Yr [some 0] (by simp[ae])
  rintro B h1 KL hL
  dsimp only[aE,zN,zS]
  by_cases hB:B=[]
  ·subst hB
   repeat' (first|refine Zq ?_|refine Zt ?_|(refine Yb rfl ?_ ?_<;>intro ab<;>(try simp at ab)<;>try exact dc))
   simp
   exact⟨_,qe _,by simp,.pure (by simp)⟩
  ·have cI:0<B.length:=aqj.2 hB
   have Vd: ¬(B.length:Int)=0:=by omega
   have hr:=rE B (by omega)
   repeat' (first|(refine Zu ?_;intro K9 h9;simp(disch:=first|exact dd|fail) [hB,cI];refine Zm ?_;((first|(refine jI hr (by simp) (fun v hv hp=>?_);obtain⟨t1,c1,r1,rest,er,rfl,g1,g2,g3,g4,g5⟩:=hv)|skip)<;>(refine Zf h9 ?_;clear h9 K9)))|refine Zt ?_|(refine Yb rfl ?_ ?_<;>intro ab<;>(try simp at ab)<;>try exact dc))
   all_goals(try simp)
   all_goals first
    |exact⟨_,qe _,by simp,.pure (by simp)⟩
    |fail
 |succ j ih=>
  intro d t c r hj hc
  obtain⟨Q,hQ⟩: ∃Q,NX=Q:=⟨_,rfl⟩
  have qe: ∀er:Int,Q (.int .i64 er):=fun er=>hQ▸⟨er,rfl⟩
  rw[hQ]
  clear hQ
  have hd: ¬(16:Int)≤(d:Int)+1:=by omega
  have vS:((d+1:Nat):Int)=(d:Int)+1:=by omega
  have ih: ∀(t:Int) (c r:Bs),c.length≤1000000000→EP prog 211 [.agg [.int .i64 t,.str c,.str r],.int .i64 ((d:Int)+1)] NX:=fun t c r h=>by
   have:=ih (d+1) t c r (by omega) h
   rwa[vS]at this
  clear vS
  refine cR func211 rfl call211 ?_
  refine af (s':=(.agg [.int .i64 t,.str c,.str r]:V)::(.int .i64 d:V)::zJ 38) rfl ?_;dsimp only[zJ]
  repeat' (first|refine Zq ?_|refine Zt ?_|(refine Yb rfl ?_ ?_<;>intro ab<;>(try simp at ab)<;>try exact dc))
  all_goals(try(simp;exact⟨_,qe _,by simp,.pure (by simp)⟩))
  refine bm (α:=Bs) (fun x=>(some V.aa::none::some V.aa::none::some V.aa::some (V.str x)::zS 34 [])) (fun _=> [.live [.int .i64 t,.str c,.str r]]) (fun x=>x.length≤c.length) (fun x=>x.length) c (by simp) ?_ ?_
  ·dsimp only[aE,zN,zS]
   exact Yr [some 0] (by simp[ae])
  rintro B h1 KL hL
  dsimp only[aE,zN,zS]
  by_cases hB:B=[]
  ·subst hB
   repeat' (first|refine Zq ?_|refine Zt ?_|(refine Yb rfl ?_ ?_<;>intro ab<;>(try simp at ab)<;>try exact dc))
   simp
   exact⟨_,qe _,by simp,.pure (by simp)⟩
  ·have cI:0<B.length:=aqj.2 hB
   have Vd: ¬(B.length:Int)=0:=by omega
   have hr:=rE B (by omega)
   repeat' (first|(refine Zu ?_;intro K9 h9;simp(disch:=first|exact dd|fail) [hB,cI,hd];refine Zm ?_;((first|(refine jI hr (by simp) (fun v hv hp=>?_);obtain⟨t1,c1,r1,rest,er,rfl,g1,g2,g3,g4,g5⟩:=hv)|(refine jI (ih _ _ _ (by omega)) (by simp) (fun v hv hp=>?_);obtain⟨er2,rfl⟩:=hv)|skip)<;>(refine Zf h9 ?_;clear h9 K9)))|refine Zt ?_|(refine Yb rfl ?_ ?_<;>intro ab<;>(try simp at ab)<;>try exact dc))
   all_goals(try simp)
   all_goals first
    |exact⟨_,qe _,by simp,.pure (by simp)⟩
    |(have g6:=g4 (by assumption);refine hL rest _ _ (by omega) (by omega) ?_;exact Yr [some 0] (by simp[ae]))
    |fail
theorem LD(c:Bs)(hc:c.length≤1000000000):EP prog 282 [.str c] Qf:=by
 have hb:=Dc c hc
 obtain⟨Q,hQ⟩: ∃Q,Qf=Q:=⟨_,rfl⟩
 have q: ∀m er:Int,Qe m→Q (.aB [.int .i64 m,.int .i64 er]):=fun m er h=>hQ▸⟨m,er,rfl,h⟩
 rw[hQ]
 clear hQ
 have key: ∀(b:Bs) (k er:Int),b.length≤c.length→0≤k→k≤7→(b=[]→er=0→k=0)→NY c (.aB [.str b,.int .i64 k,.int .i64 er]):=fun b k er h1 h2 h3 h4=>⟨b,k,er,rfl,h1,h2,h3,h4⟩
 refine cR func282 rfl call282 ?_
 refine af (s':=(.str c:V)::zJ 58) rfl ?_;dsimp only[zJ]
 repeat' (first|((first|refine fc ?_|(refine fU ?_ ?_;(focus (simp;done))));intro K9 h9;refine Zd ?_;((first|(refine jI hb (by simp) (fun v hv hp=>?_);obtain⟨b,k,er,rfl,h1,h2,h3,h4⟩:=hv)|skip)<;>(refine fe h9 ?_;clear h9 K9)))|refine ay ?_|(refine Yb rfl ?_ ?_<;>intro ab<;>(try simp at ab)<;>try exact dc)|refine gm ?_|fail)
 all_goals(try simp)
 all_goals(try exact⟨_,q _ _ (by first|assumption|exact yM),by simp,.pure (by simp)⟩)
 have her:er=0:=by assumption
 rcases Nat.eq_zero_or_pos b.length with hl|hl
 ·obtain rfl:=apW hl
  obtain rfl:k=0:=h4 rfl her
  repeat' (first|refine yk ?_|refine ay ?_|(refine cC 1 fun KL hL=>?_)|refine Y8 fun K hK=>?_|(apply hK;clear hK K)|(refine Yb rfl ?_ ?_<;>intro ab<;>(try simp at ab)<;>try exact dc)|refine gm ?_|refine Zx ?_|clear hK K|(refine hL _ _ _ ?_)|(clear hK K)|(clear hL KL))
  all_goals(simp;exact⟨_,q _ _ (by first|assumption|exact yM),by simp,.pure (by simp)⟩)
 have hg:k<8*(b.length:Int):=by omega
 have hx:0≤(b.length:Int)-1:=by omega
 repeat' (first|refine b9 (Zj hg hx) ?_|refine ay ?_|(refine Yb rfl ?_ ?_<;>intro ab<;>(try simp at ab)<;>try exact dc)|refine aK (Zj hg hx) ?_|(refine nT rfl rfl rfl (fun hb=>?_) (fun hb=>?_)<;>(fail_if_success (with_reducible cases hb;done))<;>rw[hb]<;>(try simp at hb)<;>(try contradiction)<;>(try(exfalso;omega))))
 all_goals(try(simp;exact⟨_,q _ _ (by first|assumption|exact yM),by simp,.pure (by simp)⟩))
 have gp:8*(b.length:Int)-k≤16:=by omega
 clear hb key hg hx h1 h4 her
 obtain⟨n,hn⟩: ∃n:Int,8*(b.length:Int)-k=n:=⟨_,rfl⟩
 simp only[hn]
 rw[hn]at gp
 have Dd:0≤n:=by omega
 refine bm (α:=Nat×Int) (fun x=>(some V.aa::none::zS 2 (none::zS 2 (none::some (V.int .i64 x.2)::some (V.int .i64 x.1)::zS 49 [])))) (fun _=> []) (fun x=>(x.1:Int)≤n∧Qe x.2) (fun x=>17-x.1) (0,0) ⟨by simpa using Dd,yM⟩ ?_ ?_
 ·dsimp only[aE,zN,zS]
  exact Yr [] (by simp[ae])
 rintro⟨i,m⟩ ⟨hi,hm⟩ KL hL
 dsimp only at hi hm
 dsimp only[aE,zN,zS]
 by_cases jP:(i:Int)<n
 ·have Is:0≤(i:Int)/8:=by omega
  have yN:(i:Int)/8<b.length:=by omega
  have ru:0≤7-(i:Int)%8:=by omega
  repeat' (first|refine Z3 (Zj jP (Zj Is (Zj yN ru))) ?_|refine Zt ?_|(refine Yb rfl ?_ ?_<;>intro ab<;>(try simp at ab)<;>try exact dc)|refine Z6 (Zj jP (Zj Is (Zj yN ru))) ?_|(refine MI rfl rfl rfl (fun hb=>?_) (fun hb=>?_)<;>(fail_if_success (with_reducible cases hb;done))<;>rw[hb]<;>(try simp at hb)<;>(try contradiction)<;>(try(exfalso;omega))))
  ·have YB:=YA BinOp.or m (IntKind.i64.wrap (2^i))
   refine hL (i+1,bits BinOp.or IntKind.i64 m (IntKind.i64.wrap (2^i))) _ _ ⟨by dsimp only;omega,YB⟩ (by dsimp only;omega) ?_
   refine Le.mk [] ?_ (aZ (by simp) (by simp[ae])) (by simp)
   (focus (dsimp only[aE,zN,zS];simp;done))
  ·refine hL (i+1,m) _ _ ⟨by dsimp only;omega,hm⟩ (by dsimp only;omega) ?_
   refine Le.mk [] ?_ (aZ (by simp) (by simp[ae])) (by simp)
   (focus (dsimp only[aE,zN,zS];simp;done))
 ·repeat' (first|refine Z3 jP ?_|refine Zt ?_|(refine Yb rfl ?_ ?_<;>intro ab<;>(try simp at ab)<;>try exact dc)|refine Z6 jP ?_|fail)
  all_goals(simp;exact⟨_,q _ _ (by first|assumption|exact yM),by simp,.pure (by simp)⟩)
end Go.Proofs.YtjlnoogcggdhkaaGreatDoor
