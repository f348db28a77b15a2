/-
 STEP: StepEnters.
 Conditions: none.
-/
import Derived.Test.YtjlnoogcggdhkaaGreatDoorKb
import Derived.Test.YtjlnoogcggdhkaaGreatDoorGk
import Derived.Test.YtjlnoogcggdhkaaGreatDoorT5
set_option maxRecDepth 100000
set_option maxHeartbeats 32000000
set_option linter.all false
namespace Go.Proofs.YtjlnoogcggdhkaaGreatDoor
open Go.Proofs.Tryz
open Go.VS Go.Stp
attribute [local irreducible] bj au bE aS bz Cf
theorem L5(l:List Int)(h:JY l 0)(st:Int)(last:Bool):ao prog 3 [.sl l.length (l.map (V.int .i64)),.int .i64 st,.bool last] (.bool true):=by
 have aw:=OY
 have n2:DW prog 7 [.int .i64 2] (JZ 2):=AX 2 (by simp)
 have n3:DW prog 7 [.int .i64 3] (JZ 3):=AX 3 (by simp)
 have n4:DW prog 7 [.int .i64 4] (JZ 4):=AX 4 (by simp)
 have pg:=L6
 have qd:=Ue
 refine ah func3 rfl call3 ?_ ?_
 rotate_left 1
 refine af (s':=(.sl l.length (l.map (V.int .i64)):V)::(.int .i64 st:V)::(.bool last:V)::zJ 67) rfl ?_;dsimp only[zJ]
 all_goals(try exact .bool)
 refine b8 fun K hK=>?_
 repeat' (first|((first|refine Zu ?_|(refine Zv ?_ ?_;(focus (simp;done))));intro K9 h9;refine Zd ?_;((first|refine og (qz l) (nW _ _) (by simp) ?_|(refine bU pg rfl (by assumption) (by simp) (fun r l' a' fx hQ hr=>?_);obtain⟨s,hs,rfl⟩:=hQ;clear hr;rw[Pg.c.eq_1 s])|(refine bU n3 rfl (by assumption) (by simp) (fun r l' a' fx hQ hr=>?_);obtain⟨x,qP,pN,rfl⟩:=hQ;clear hr)|(refine bU n4 rfl (by assumption) (by simp) (fun r l' a' fx hQ hr=>?_);obtain⟨x,qP,pN,rfl⟩:=hQ;clear hr)|(refine bU n2 rfl (by assumption) (by simp) (fun r l' a' fx hQ hr=>?_);obtain⟨x,qP,pN,rfl⟩:=hQ;clear hr)|(refine bU (wD _ _ (by omega) (by omega) (by omega) (by omega) _) rfl (by assumption) (by simp) (fun r l' a' fx hQ hr=>?_);obtain⟨c,hc,rfl⟩:=hQ;clear hr;rw[Ce.c.eq_1 c])|(refine bU qd rfl (by assumption) (by simp) (fun r l' a' fx hQ hr=>?_);obtain⟨q,hq,rfl⟩:=hQ;clear hr;rw[Qu.c.eq_1 q])|skip)<;>(refine Zf h9 ?_;clear h9 K9)))|refine Zt ?_|(refine Zk 0 [] ?_;refine Zl ?_)|(refine Yb rfl ?_ ?_<;>intro ab<;>(try simp at ab)<;>try exact dc)|refine Zo ?_|refine Zx ?_|fail)
 refine hK _ _ ?_;clear hK K
 refine b8 fun K hK=>?_
 repeat' (first|((first|refine Zu ?_|(refine Zv ?_ ?_;(focus (simp;done))));intro K9 h9;refine Zd ?_;((first|refine og (qz l) (nW _ _) (by simp) ?_|(refine bU pg rfl (by assumption) (by simp) (fun r l' a' fx hQ hr=>?_);obtain⟨s,hs,rfl⟩:=hQ;clear hr;rw[Pg.c.eq_1 s])|(refine bU n3 rfl (by assumption) (by simp) (fun r l' a' fx hQ hr=>?_);obtain⟨x,qP,pN,rfl⟩:=hQ;clear hr)|(refine bU n4 rfl (by assumption) (by simp) (fun r l' a' fx hQ hr=>?_);obtain⟨x,qP,pN,rfl⟩:=hQ;clear hr)|(refine bU n2 rfl (by assumption) (by simp) (fun r l' a' fx hQ hr=>?_);obtain⟨x,qP,pN,rfl⟩:=hQ;clear hr)|(refine bU (wD _ _ (by omega) (by omega) (by omega) (by omega) _) rfl (by assumption) (by simp) (fun r l' a' fx hQ hr=>?_);obtain⟨c,hc,rfl⟩:=hQ;clear hr;rw[Ce.c.eq_1 c])|(refine bU qd rfl (by assumption) (by simp) (fun r l' a' fx hQ hr=>?_);obtain⟨q,hq,rfl⟩:=hQ;clear hr;rw[Qu.c.eq_1 q])|skip)<;>(refine Zf h9 ?_;clear h9 K9)))|refine Zt ?_|(refine Zk 0 [] ?_;refine Zl ?_)|(refine Yb rfl ?_ ?_<;>intro ab<;>(try simp at ab)<;>try exact dc)|refine Zo ?_|refine Zx ?_|fail)
 refine hK _ _ ?_;clear hK K
 refine b8 fun K hK=>?_
 repeat' (first|((first|refine Zu ?_|(refine Zv ?_ ?_;(focus (simp;done))));intro K9 h9;refine Zd ?_;((first|refine og (qz l) (nW _ _) (by simp) ?_|(refine bU pg rfl (by assumption) (by simp) (fun r l' a' fx hQ hr=>?_);obtain⟨s,hs,rfl⟩:=hQ;clear hr;rw[Pg.c.eq_1 s])|(refine bU n3 rfl (by assumption) (by simp) (fun r l' a' fx hQ hr=>?_);obtain⟨x,qP,pN,rfl⟩:=hQ;clear hr)|(refine bU n4 rfl (by assumption) (by simp) (fun r l' a' fx hQ hr=>?_);obtain⟨x,qP,pN,rfl⟩:=hQ;clear hr)|(refine bU n2 rfl (by assumption) (by simp) (fun r l' a' fx hQ hr=>?_);obtain⟨x,qP,pN,rfl⟩:=hQ;clear hr)|(refine bU (wD _ _ (by omega) (by omega) (by omega) (by omega) _) rfl (by assumption) (by simp) (fun r l' a' fx hQ hr=>?_);obtain⟨c,hc,rfl⟩:=hQ;clear hr;rw[Ce.c.eq_1 c])|(refine bU qd rfl (by assumption) (by simp) (fun r l' a' fx hQ hr=>?_);obtain⟨q,hq,rfl⟩:=hQ;clear hr;rw[Qu.c.eq_1 q])|skip)<;>(refine Zf h9 ?_;clear h9 K9)))|refine Zt ?_|(refine Zk 0 [] ?_;refine Zl ?_)|(refine Yb rfl ?_ ?_<;>intro ab<;>(try simp at ab)<;>try exact dc)|refine Zo ?_|refine Zx ?_|fail)
 refine hK _ _ ?_;clear hK K
 refine b8 fun K hK=>?_
 repeat' (first|((first|refine Zu ?_|(refine Zv ?_ ?_;(focus (simp;done))));intro K9 h9;refine Zd ?_;((first|refine og (qz l) (nW _ _) (by simp) ?_|(refine bU pg rfl (by assumption) (by simp) (fun r l' a' fx hQ hr=>?_);obtain⟨s,hs,rfl⟩:=hQ;clear hr;rw[Pg.c.eq_1 s])|(refine bU n3 rfl (by assumption) (by simp) (fun r l' a' fx hQ hr=>?_);obtain⟨x,qP,pN,rfl⟩:=hQ;clear hr)|(refine bU n4 rfl (by assumption) (by simp) (fun r l' a' fx hQ hr=>?_);obtain⟨x,qP,pN,rfl⟩:=hQ;clear hr)|(refine bU n2 rfl (by assumption) (by simp) (fun r l' a' fx hQ hr=>?_);obtain⟨x,qP,pN,rfl⟩:=hQ;clear hr)|(refine bU (wD _ _ (by omega) (by omega) (by omega) (by omega) _) rfl (by assumption) (by simp) (fun r l' a' fx hQ hr=>?_);obtain⟨c,hc,rfl⟩:=hQ;clear hr;rw[Ce.c.eq_1 c])|(refine bU qd rfl (by assumption) (by simp) (fun r l' a' fx hQ hr=>?_);obtain⟨q,hq,rfl⟩:=hQ;clear hr;rw[Qu.c.eq_1 q])|skip)<;>(refine Zf h9 ?_;clear h9 K9)))|refine Zt ?_|(refine Zk 0 [] ?_;refine Zl ?_)|(refine Yb rfl ?_ ?_<;>intro ab<;>(try simp at ab)<;>try exact dc)|refine Zo ?_|refine Zx ?_|fail)
 refine hK _ _ ?_;clear hK K
 refine b8 fun K hK=>?_
 repeat' (first|((first|refine Zu ?_|(refine Zv ?_ ?_;(focus (simp;done))));intro K9 h9;refine Zd ?_;((first|refine og (qz l) (nW _ _) (by simp) ?_|(refine bU pg rfl (by assumption) (by simp) (fun r l' a' fx hQ hr=>?_);obtain⟨s,hs,rfl⟩:=hQ;clear hr;rw[Pg.c.eq_1 s])|(refine bU n3 rfl (by assumption) (by simp) (fun r l' a' fx hQ hr=>?_);obtain⟨x,qP,pN,rfl⟩:=hQ;clear hr)|(refine bU n4 rfl (by assumption) (by simp) (fun r l' a' fx hQ hr=>?_);obtain⟨x,qP,pN,rfl⟩:=hQ;clear hr)|(refine bU n2 rfl (by assumption) (by simp) (fun r l' a' fx hQ hr=>?_);obtain⟨x,qP,pN,rfl⟩:=hQ;clear hr)|(refine bU (wD _ _ (by omega) (by omega) (by omega) (by omega) _) rfl (by assumption) (by simp) (fun r l' a' fx hQ hr=>?_);obtain⟨c,hc,rfl⟩:=hQ;clear hr;rw[Ce.c.eq_1 c])|(refine bU qd rfl (by assumption) (by simp) (fun r l' a' fx hQ hr=>?_);obtain⟨q,hq,rfl⟩:=hQ;clear hr;rw[Qu.c.eq_1 q])|skip)<;>(refine Zf h9 ?_;clear h9 K9)))|refine Zt ?_|(refine Zk 0 [] ?_;refine Zl ?_)|(refine Yb rfl ?_ ?_<;>intro ab<;>(try simp at ab)<;>try exact dc)|refine Zo ?_|refine Zx ?_|fail)
 refine hK _ _ ?_;clear hK K
 have VE:Ig s c:=⟨hc.aT,hc.bq,hc.names,hs.vL,hs.names,hs.key,by have:=hc.eQ;omega,by have:=hc.sig;omega⟩
 have htm:=hq
 clear hq hc hs pg qd n2 n3
 refine Cp fun K1 Dl yW=>?_
 have lu: ∀(q:Qu) (l:List Int) (b:Nat),K1 ((V.aa::(V.int .i64 st)::(V.bool last)::V.aa::V.aa::V.aa::V.aa::V.aa::(V.ref 1 0)::(V.ref 2 0)::(V.ref 3 0)::V.aa::V.aa::V.aa::V.aa::V.aa::V.aa::V.aa::V.aa::V.aa::V.aa::V.aa::V.aa::V.aa::V.aa::V.aa::V.aa::V.aa::V.aa::V.aa::V.aa::V.aa::V.aa::V.aa::V.aa::V.aa::V.aa::V.aa::V.aa::V.aa::V.aa::V.aa::V.aa::V.aa::V.aa::V.aa::V.aa::V.aa::V.aa::V.aa::V.aa::V.aa::V.aa::V.aa::V.aa::V.aa::V.aa::V.aa::V.aa::V.aa::V.aa::V.aa::V.aa::V.aa::V.aa::V.aa::V.aa::V.aa::V.aa::V.aa::[])) [.live (dk l b),.live [aW s.aT,.int .i64 s.key.h,.str s.key.id,.str s.key.root,.bool s.lists,.int .i64 s.len,.int .i64 s.dh,.int .i64 s.map,.int .i64 s.any,cU s.names],.live [.str c.raw,.str c.eQ,.int .i64 c.dK,aW c.aT,aW c.bq,.int .i64 c.nb,.int .i64 c.na,.int .i64 c.key.h,.str c.key.id,.str c.key.root,.bool c.info.basic,.bool c.info.ca,.int .i64 c.info.gz,.int .i64 c.info.bM,bY c.info.cT,bY c.info.bG,ff c.info.maps,.int .i64 c.info.gA,.int .i64 c.info.gB,.int .i64 c.info.gC,aX c.info.names,.bool c.info.fV,aX c.info.cons.p,aX c.info.cons.x,.str c.info.sk,.str c.info.ak,cM c.info.points,cM c.info.fresh,gk c.info.gn,.str c.sig],.live [.int .i64 q.time,.str q.iH,.int .i64 q.bM,bY q.bG,.bool q.dh,.bool q.jZ,.bool q.j0,aX q.names,.int .i64 q.gL,.bool q.status,jh q.dD]]:=by
  intro q l b
  refine Dl _ _ ?_
  clear Dl yW K1 htm n4
  have ec:=fun k:Int=>NW s c q k last VE
  have rc:=fun k:Int=>Lr s c q k last VE
  simp only[Pg.c.eq_1,Ce.c.eq_1,Qu.c.eq_1]at ec rc
  generalize hE:(fun k:Int=>Cf s c q k last)=E
  have hE': ∀k,Cf s c q k last=E k:=fun k=>by rw[←hE]
  simp only[hE']at ec rc
  clear hE hE' VE
  repeat' (first|refine Zr ?_|refine Zt ?_|refine Y8 fun K hK=>?_|(apply hK;clear hK K)|(refine Zk 0 [] ?_;refine Zl ?_)|(refine Yb rfl ?_ ?_<;>intro ab<;>(try simp at ab)<;>try exact dc)|refine Zo ?_|refine Zx ?_|clear hK K)
  refine aV (fun i=>(some V.aa::zN 5 (zS 2 (zN 3 (some (V.int .i64 ((i:Int)-1))::zS 58 []))))) (fun i=> [.live (dk l b),.live [aW s.aT,.int .i64 s.key.h,.str s.key.id,.str s.key.root,.bool s.lists,.int .i64 s.len,.int .i64 s.dh,.int .i64 s.map,.int .i64 s.any,cU s.names],.live [.str c.raw,.str c.eQ,.int .i64 c.dK,aW c.aT,aW c.bq,.int .i64 c.nb,.int .i64 c.na,.int .i64 c.key.h,.str c.key.id,.str c.key.root,.bool c.info.basic,.bool c.info.ca,.int .i64 c.info.gz,.int .i64 c.info.bM,bY c.info.cT,bY c.info.bG,ff c.info.maps,.int .i64 c.info.gA,.int .i64 c.info.gB,.int .i64 c.info.gC,aX c.info.names,.bool c.info.fV,aX c.info.cons.p,aX c.info.cons.x,.str c.info.sk,.str c.info.ak,cM c.info.points,cM c.info.fresh,gk c.info.gn,.str c.sig],.live [.int .i64 q.time,.str q.iH,.int .i64 q.bM,bY q.bG,.bool q.dh,.bool q.jZ,.bool q.j0,aX q.names,.int .i64 q.gL,.bool q.status,jh q.dD]]) 7 ?_ fun i hi KL hL=>?_
  ·exact Yv [some 0,some 1,some 2,some 3]
  dsimp only[aE,zN,zS]
  rcases apQ i 7 with hi|hi
  ·have e1:=ec ((i:Int)-1)
   have e2:=rc ((i:Int)-1)
   clear ec rc aw
   generalize E ((i:Int)-1)=z at*
   repeat' (first|((first|refine Zu ?_|(refine Zv ?_ ?_;(focus (simp;done))));intro K9 h9;refine Zd ?_;((first|refine Ap e1 ?_|refine Ap e2 ?_|refine⟨_,e1,?_⟩|refine⟨_,e2,?_⟩|skip)<;>(refine Zf h9 ?_;clear h9 K9)))|refine Zt ?_|refine Y8 fun K hK=>?_|(apply hK;clear hK K)|((first|refine Zk 0 [0,0,0,0,0,1,0,0,0,0,0,1,0] ?_|refine Zk 0 [] ?_);refine Zl ?_)|(refine Yb rfl ?_ ?_<;>intro ab<;>(try simp at ab)<;>try exact dc)|refine Zo ?_|refine Zx ?_|clear hK K)
   refine hL _ _ hi ?_
   exact Yv [some 0,some 1,some 2,some 3]
  ·obtain rfl:i=7:=by omega
   have e1:=ec st
   have e2:=rc st
   clear ec rc
   generalize E st=z at*
   repeat' (first|((first|refine Eb ?_|(refine Ru ?_ ?_;(focus (simp;done))));intro K9 h9;refine Zd ?_;((first|refine Ap e1 ?_|refine Ap e2 ?_|refine Ap aw ?_|refine⟨_,e1,?_⟩|refine⟨_,e2,?_⟩|refine⟨_,aw,?_⟩|skip)<;>(refine Ec h9 ?_;clear h9 K9)))|refine tF ?_|refine Y8 fun K hK=>?_|(apply hK;clear hK K)|((first|refine DU.Zk 0 [0,0,0,0,0,1,0,0,0,0,0,1,0,0,1,0,0] ?_|refine DU.Zk 0 [] ?_);refine Zl ?_)|(refine Yb rfl ?_ ?_<;>intro ab<;>(try simp at ab)<;>try exact dc)|refine ZoD ?_|refine Zx ?_|clear hK K)
   all_goals(try simp)
   all_goals exact .pure .bool
 clear Dl aw VE
 refine b8 fun K hK=>?_
 repeat' (first|((first|refine Zu ?_|(refine Zv ?_ ?_;(focus (simp;done))));intro K9 h9;refine Zd ?_;((first|(refine bU n4 rfl (by assumption) (by simp) (fun r l' a' fx hQ hr=>?_);obtain⟨x,qP,pN,rfl⟩:=hQ;clear hr)|skip)<;>(refine Zf h9 ?_;clear h9 K9)))|refine Zt ?_|(refine Zk 0 [] ?_;refine Zl ?_)|(refine Yb rfl ?_ ?_<;>intro ab<;>(try simp at ab)<;>try exact dc)|refine Zo ?_|refine Zx ?_|fail)
 refine hK _ _ ?_;clear hK K
 refine nS rfl (fun ab=>?_) (fun ab=>?_)
 ·have b5:=Oc (l:=l') (a:=a') (n:=5) (by omega)
  have n5:tZ prog 7 [.ref 0 0,.int .i64 5] (dk l' a') (dk l' (IA l' a')) (.int .i64 (By l' a' 5)):=OZ l' a' 5 fx.len fx.at' (by omega) (by omega) fx.aR
  generalize By l' a' 5=z at*
  generalize IA l' a'=a2 at*
  clear n4
  repeat' (first|((first|refine Zu ?_|(refine Zv ?_ ?_;(focus (simp;done))));intro K9 h9;refine Zd ?_;((first|refine LV n5 rfl (nW _ _) (nW _ _) (by simp) (by simp) ?_|refine xE (v:=.int .i64 q.time) rfl (by simp;done) (by simp;done) ?_|skip)<;>(refine Zf h9 ?_;clear h9 K9)))|refine Zt ?_|refine Y8 fun K hK=>?_|(apply hK;clear hK K)|((first|refine CM (m:=0) [(3,0,.int .i64 q.time)] (by simp) (by decide+kernel) [0,3,0,2,0,0,0,0] 7 (by kernel_rfl) (by kernel_rfl) (by decide+kernel) (by decide+kernel) ?_|refine Zk 0 [0,3,0,2,0,0,0,0] ?_|refine Zk 0 [] ?_);refine Zl ?_)|(refine Yb rfl ?_ ?_<;>intro ab<;>(try simp at ab)<;>try exact dc)|refine Zo ?_|refine Zx ?_|clear hK K)
  refine yW.le _ _ _ _ ?_ (lu {q with time:=q.time+(z-2)} l' a2)
  exact Yv [some 0,some 1,some 2,some 3]
 ·clear n4
  repeat' (first|refine Zr ?_|refine Zt ?_|refine Y8 fun K hK=>?_|(apply hK;clear hK K)|(refine Zk 0 [] ?_;refine Zl ?_)|(refine Yb rfl ?_ ?_<;>intro ab<;>(try simp at ab)<;>try exact dc)|refine Zo ?_|refine Zx ?_|clear hK K)
  refine yW.le _ _ _ _ ?_ (lu q l' a')
  exact Yv [some 0,some 1,some 2,some 3]
theorem stepEnters_fits: ∀xs,oe prog 8 Tryz.f3.params.toList xs→ao prog 3 xs (.bool true):=by
 intro xs h
 rw[show Tryz.f3.params.toList=[22,3,4] by kernel_rfl]at h
 obtain⟨x1,xs,rfl,h1,h⟩:=sJ h
 obtain⟨x2,xs,rfl,h2,h⟩:=sJ h
 obtain⟨x3,xs,rfl,h3,h⟩:=sJ h
 obtain rfl:=Lt h
 obtain⟨l,hl,hr,rfl⟩:=Qb (e:=3) (by kernel_rfl) (by kernel_rfl) h1
 obtain⟨st,oz,rfl⟩:=fits_int (by kernel_rfl) h2
 obtain⟨b,rfl⟩:=fits_bool (by kernel_rfl) h3
 exact L5 l ⟨hl,hr,by omega⟩ st b
end Go.Proofs.YtjlnoogcggdhkaaGreatDoor
