/-
 STEP: the first checks of a certificate, by the reference.
 Conditions: none.
-/
import Derived.Test.YtjlnoogcggdhkaaGreatDoorT3
set_option maxRecDepth 100000
set_option maxHeartbeats 32000000
set_option linter.all false
namespace Go.Proofs.YtjlnoogcggdhkaaGreatDoor
open Go.Proofs.Tryz
open Go.VS Go.Stp
attribute [local irreducible] bj au bE aS bz lj
theorem yB(a b:Nm)(ha:WN a)(hb:WN b):ao prog 31 [.agg [aW a],.agg [aW b]] (.bool (jY a b)):=by
 have hm:=oK a b ha hb
 unfold aW at*
 refine ah func31 rfl call31 ?_ ?_
 rotate_left 1
 refine af (s':=(.agg [.sl a.length (a.map bn)]:V)::(.agg [.sl b.length (b.map bn)]:V)::zJ 15) rfl ?_;dsimp only[zJ]
 have yC:=ha.1
 have Ie:=hb.1
 by_cases h0:(a.length:Int)=b.length
 ·repeat' (first|refine Z4 h0 hm ?_|refine Zt ?_|refine Z6 h0 ?_|fail)
  rw[show jY a b=et a b by simp[jY];omega]
  exact .pure .bool
 ·repeat' (first|refine Z4 h0 hm ?_|refine Zt ?_|refine Z6 h0 ?_|fail)
  rw[show jY a b=false by simp[jY];omega]
  exact .pure .bool
 exact .bool
theorem Lq(c:Ce)(h1:WN c.aT)(h2:WN c.bq):ao prog 32 [.agg c.c] (.bool (gV c)):=by
 have hm:=yB c.aT c.bq h1 h2
 rw[Ce.c.eq_1]
 unfold gV
 generalize jY c.aT c.bq=B at*
 refine ah func32 rfl call32 ?_ ?_
 rotate_left 1
 refine af (s':=(.agg [.str c.raw,.str c.eQ,.int .i64 c.dK,aW c.aT,aW c.bq,.int .i64 c.nb,.int .i64 c.na,.int .i64 c.key.h,.str c.key.id,.str c.key.root,.bool c.info.basic,.bool c.info.ca,.int .i64 c.info.gz,.int .i64 c.info.bM,bY c.info.cT,bY c.info.bG,ff c.info.maps,.int .i64 c.info.gA,.int .i64 c.info.gB,.int .i64 c.info.gC,aX c.info.names,.bool c.info.fV,aX c.info.cons.p,aX c.info.cons.x,.str c.info.sk,.str c.info.ak,cM c.info.points,cM c.info.fresh,gk c.info.gn,.str c.sig]:V)::zJ 7) rfl ?_;dsimp only[zJ]
 repeat' (first|refine Z2 hm ?_|refine Zt ?_|fail)
 ·exact .pure .bool
 ·exact .bool
theorem renter_n(s:Pg)(c:Ce)(q:Qu)(st:Int)(last:Bool)(w:Ig s c)(hn:lj s.key.h s.key.id s.key.root c.eQ c.sig≠0∨q.time<c.nb∨c.na<q.time∨jY c.aT s.aT=false):ao prog 10 [.agg s.c,.agg c.c,.agg q.c,.int .i64 st,.bool last] (.int .i64 (Cf s c q st last)):=by
 have h1:=Ih s.key.h s.key.id s.key.root c.eQ c.sig (by have:=w.key.1;omega) (by have:=w.key.2;omega) w.eQ (by have:=w.sig;omega)
 have h3:=yB c.aT s.aT w.vL w.XW
 have hs:=Lq c w.vL w.sub
 have hp:=Hu s.names c.bq c.info.names w.sn w.sub w.names
 unfold Cf P4 P5 P6
 rw[Pg.c.eq_1,Ce.c.eq_1,Qu.c.eq_1]at*
 generalize lj s.key.h s.key.id s.key.root c.eQ c.sig=e at*
 generalize pP s.names c.bq c.info.names=P at*
 generalize gV c=B at*
 generalize jY c.aT s.aT=N at*
 refine ah func10 rfl call10 ?_ ?_
 rotate_left 1
 refine af (s':=(.agg [aW s.aT,.int .i64 s.key.h,.str s.key.id,.str s.key.root,.bool s.lists,.int .i64 s.len,.int .i64 s.dh,.int .i64 s.map,.int .i64 s.any,cU s.names]:V)::(.agg [.str c.raw,.str c.eQ,.int .i64 c.dK,aW c.aT,aW c.bq,.int .i64 c.nb,.int .i64 c.na,.int .i64 c.key.h,.str c.key.id,.str c.key.root,.bool c.info.basic,.bool c.info.ca,.int .i64 c.info.gz,.int .i64 c.info.bM,bY c.info.cT,bY c.info.bG,ff c.info.maps,.int .i64 c.info.gA,.int .i64 c.info.gB,.int .i64 c.info.gC,aX c.info.names,.bool c.info.fV,aX c.info.cons.p,aX c.info.cons.x,.str c.info.sk,.str c.info.ak,cM c.info.points,cM c.info.fresh,gk c.info.gn,.str c.sig]:V)::(.agg [.int .i64 q.time,.str q.iH,.int .i64 q.bM,bY q.bG,.bool q.dh,.bool q.jZ,.bool q.j0,aX q.names,.int .i64 q.gL,.bool q.status,jh q.dD]:V)::(.int .i64 st:V)::(.bool last:V)::zJ 71) rfl ?_;dsimp only[zJ]
 all_goals(try exact .int)
 by_cases he:e=0
 rotate_left
 ·have e1:decide (e≠0)=true:=by simpa using he
  rw[e1]
  repeat' (first|refine Z4 he h1 ?_|refine Zt ?_|(refine Yb rfl ?_ ?_<;>intro ab<;>(try simp at ab)<;>try exact dc)|refine Z6 he ?_|fail)
  exact .pure .int
 rw[he]at h1
 have e1:decide (e≠0)=false:=by simpa using he
 rw[e1]
 clear e1
 by_cases oL:q.time<c.nb
 ·have e1:Bp c q=true:=by unfold Bp;simp[oL]
  rw[e1]
  repeat' (first|refine bS oL h1 ?_|refine ay ?_|(refine Yb rfl ?_ ?_<;>intro ab<;>(try simp at ab)<;>try exact dc)|refine aK oL ?_|fail)
  exact .pure .int
 by_cases mL:c.na<q.time
 ·have e1:Bp c q=true:=by unfold Bp;simp[mL]
  rw[e1]
  repeat' (first|refine bS (Zj oL mL) h1 ?_|refine ay ?_|(refine Yb rfl ?_ ?_<;>intro ab<;>(try simp at ab)<;>try exact dc)|refine aK (Zj oL mL) ?_|fail)
  exact .pure .int
 have e1:Bp c q=false:=by unfold Bp;simp[oL,mL]
 rw[e1]
 clear e1
 cases N
 ·repeat' (first|refine bS (Zj oL mL) (Zj h1 h3) ?_|refine ay ?_|(refine Yb rfl ?_ ?_<;>intro ab<;>(try simp at ab)<;>try exact dc)|refine aK (Zj oL mL) ?_|fail)
  exact .pure .int
 simp[he,oL,mL]at hn
theorem renter_f(s:Pg)(c:Ce)(q:Qu)(st:Int)(last:Bool)(w:Ig s c)(he:lj s.key.h s.key.id s.key.root c.eQ c.sig=0)(oL: ¬q.time<c.nb)(mL: ¬c.na<q.time)(hN:jY c.aT s.aT=true)(hq:q.status=false):ao prog 10 [.agg s.c,.agg c.c,.agg q.c,.int .i64 st,.bool last] (.int .i64 (Cf s c q st last)):=by
 have h1:=Ih s.key.h s.key.id s.key.root c.eQ c.sig (by have:=w.key.1;omega) (by have:=w.key.2;omega) w.eQ (by have:=w.sig;omega)
 have h3:=yB c.aT s.aT w.vL w.XW
 have hs:=Lq c w.vL w.sub
 have hp:=Hu s.names c.bq c.info.names w.sn w.sub w.names
 unfold Cf P4 P5 P6
 rw[Pg.c.eq_1,Ce.c.eq_1,Qu.c.eq_1]at*
 generalize lj s.key.h s.key.id s.key.root c.eQ c.sig=e at*
 generalize pP s.names c.bq c.info.names=P at*
 generalize gV c=B at*
 generalize jY c.aT s.aT=N at*
 refine ah func10 rfl call10 ?_ ?_
 rotate_left 1
 refine af (s':=(.agg [aW s.aT,.int .i64 s.key.h,.str s.key.id,.str s.key.root,.bool s.lists,.int .i64 s.len,.int .i64 s.dh,.int .i64 s.map,.int .i64 s.any,cU s.names]:V)::(.agg [.str c.raw,.str c.eQ,.int .i64 c.dK,aW c.aT,aW c.bq,.int .i64 c.nb,.int .i64 c.na,.int .i64 c.key.h,.str c.key.id,.str c.key.root,.bool c.info.basic,.bool c.info.ca,.int .i64 c.info.gz,.int .i64 c.info.bM,bY c.info.cT,bY c.info.bG,ff c.info.maps,.int .i64 c.info.gA,.int .i64 c.info.gB,.int .i64 c.info.gC,aX c.info.names,.bool c.info.fV,aX c.info.cons.p,aX c.info.cons.x,.str c.info.sk,.str c.info.ak,cM c.info.points,cM c.info.fresh,gk c.info.gn,.str c.sig]:V)::(.agg [.int .i64 q.time,.str q.iH,.int .i64 q.bM,bY q.bG,.bool q.dh,.bool q.jZ,.bool q.j0,aX q.names,.int .i64 q.gL,.bool q.status,jh q.dD]:V)::(.int .i64 st:V)::(.bool last:V)::zJ 71) rfl ?_;dsimp only[zJ]
 all_goals(try exact .int)
 rw[he]at h1
 have e1:decide (e≠0)=false:=by simpa using he
 rw[e1]
 clear e1 he
 have e1:Bp c q=false:=by unfold Bp;simp[oL,mL]
 rw[e1]
 clear e1
 subst hN
 have e1:ym q st=false:=by unfold ym;rw[hq];rfl
 have e2:Bq q st=false:=by unfold Bq;rw[hq];rfl
 rw[e1,e2]
 clear e1 e2
 repeat' (first|refine bS (Zj oL (Zj mL hq)) (Zj h1 (Zj h3 (Zj hs hp))) ?_|refine ay ?_|(refine Yb rfl ?_ ?_<;>intro ab<;>(try simp at ab)<;>try exact dc)|refine aK (Zj oL (Zj mL hq)) ?_|fail)
 all_goals(cases last<;>cases B<;>cases P)
 all_goals(
  repeat' (first|refine bS (Zj oL (Zj mL hq)) (Zj h1 (Zj h3 (Zj hs hp))) ?_|refine ay ?_|(refine Yb rfl ?_ ?_<;>intro ab<;>(try simp at ab)<;>try exact dc)|refine aK (Zj oL (Zj mL hq)) ?_|fail)
  exact .pure .int)
theorem renter_t(s:Pg)(c:Ce)(q:Qu)(st:Int)(last:Bool)(w:Ig s c)(he:lj s.key.h s.key.id s.key.root c.eQ c.sig=0)(oL: ¬q.time<c.nb)(mL: ¬c.na<q.time)(hN:jY c.aT s.aT=true)(hq:q.status=true):ao prog 10 [.agg s.c,.agg c.c,.agg q.c,.int .i64 st,.bool last] (.int .i64 (Cf s c q st last)):=by
 have h1:=Ih s.key.h s.key.id s.key.root c.eQ c.sig (by have:=w.key.1;omega) (by have:=w.key.2;omega) w.eQ (by have:=w.sig;omega)
 have h3:=yB c.aT s.aT w.vL w.XW
 have hs:=Lq c w.vL w.sub
 have hp:=Hu s.names c.bq c.info.names w.sn w.sub w.names
 unfold Cf P4 P5 P6
 rw[Pg.c.eq_1,Ce.c.eq_1,Qu.c.eq_1]at*
 generalize lj s.key.h s.key.id s.key.root c.eQ c.sig=e at*
 generalize pP s.names c.bq c.info.names=P at*
 generalize gV c=B at*
 generalize jY c.aT s.aT=N at*
 refine ah func10 rfl call10 ?_ ?_
 rotate_left 1
 refine af (s':=(.agg [aW s.aT,.int .i64 s.key.h,.str s.key.id,.str s.key.root,.bool s.lists,.int .i64 s.len,.int .i64 s.dh,.int .i64 s.map,.int .i64 s.any,cU s.names]:V)::(.agg [.str c.raw,.str c.eQ,.int .i64 c.dK,aW c.aT,aW c.bq,.int .i64 c.nb,.int .i64 c.na,.int .i64 c.key.h,.str c.key.id,.str c.key.root,.bool c.info.basic,.bool c.info.ca,.int .i64 c.info.gz,.int .i64 c.info.bM,bY c.info.cT,bY c.info.bG,ff c.info.maps,.int .i64 c.info.gA,.int .i64 c.info.gB,.int .i64 c.info.gC,aX c.info.names,.bool c.info.fV,aX c.info.cons.p,aX c.info.cons.x,.str c.info.sk,.str c.info.ak,cM c.info.points,cM c.info.fresh,gk c.info.gn,.str c.sig]:V)::(.agg [.int .i64 q.time,.str q.iH,.int .i64 q.bM,bY q.bG,.bool q.dh,.bool q.jZ,.bool q.j0,aX q.names,.int .i64 q.gL,.bool q.status,jh q.dD]:V)::(.int .i64 st:V)::(.bool last:V)::zJ 71) rfl ?_;dsimp only[zJ]
 all_goals(try exact .int)
 rw[he]at h1
 have e1:decide (e≠0)=false:=by simpa using he
 rw[e1]
 clear e1 he
 have e1:Bp c q=false:=by unfold Bp;simp[oL,mL]
 rw[e1]
 clear e1
 subst hN
 by_cases k2:st=2
 ·have e1:ym q st=true:=by unfold ym;rw[hq];simp[k2]
  rw[e1]
  repeat' (first|refine bS (Zj oL (Zj mL (Zj hq k2))) (Zj h1 h3) ?_|refine ay ?_|(refine Yb rfl ?_ ?_<;>intro ab<;>(try simp at ab)<;>try exact dc)|refine aK (Zj oL (Zj mL (Zj hq k2))) ?_|fail)
  exact .pure .int
 by_cases k3:st=3
 ·have e1:ym q st=true:=by unfold ym;rw[hq];simp[k3]
  rw[e1]
  repeat' (first|refine bS (Zj oL (Zj mL (Zj hq (Zj k2 k3)))) (Zj h1 h3) ?_|refine ay ?_|(refine Yb rfl ?_ ?_<;>intro ab<;>(try simp at ab)<;>try exact dc)|refine aK (Zj oL (Zj mL (Zj hq (Zj k2 k3)))) ?_|fail)
  exact .pure .int
 have e1:ym q st=false:=by unfold ym;simp[k2,k3]
 rw[e1]
 by_cases k1:st=1
 ·have e2:Bq q st=false:=by unfold Bq;simp[k1]
  rw[e2]
  clear e1 e2
  repeat' (first|refine bS (Zj oL (Zj mL (Zj hq (Zj k1 (Zj k2 k3))))) (Zj h1 (Zj h3 (Zj hs hp))) ?_|refine ay ?_|(refine Yb rfl ?_ ?_<;>intro ab<;>(try simp at ab)<;>try exact dc)|refine aK (Zj oL (Zj mL (Zj hq (Zj k1 (Zj k2 k3))))) ?_|fail)
  all_goals(cases last<;>cases B<;>cases P)
  all_goals(
   repeat' (first|refine bS (Zj oL (Zj mL (Zj hq (Zj k1 (Zj k2 k3))))) (Zj h1 (Zj h3 (Zj hs hp))) ?_|refine ay ?_|(refine Yb rfl ?_ ?_<;>intro ab<;>(try simp at ab)<;>try exact dc)|refine aK (Zj oL (Zj mL (Zj hq (Zj k1 (Zj k2 k3))))) ?_|fail)
   exact .pure .int)
 ·have e2:Bq q st=true:=by unfold Bq;rw[hq];simp[k1]
  rw[e2]
  repeat' (first|refine bS (Zj oL (Zj mL (Zj hq (Zj k1 (Zj k2 k3))))) (Zj h1 h3) ?_|refine ay ?_|(refine Yb rfl ?_ ?_<;>intro ab<;>(try simp at ab)<;>try exact dc)|refine aK (Zj oL (Zj mL (Zj hq (Zj k1 (Zj k2 k3))))) ?_|fail)
  exact .pure .int
theorem Lr(s:Pg)(c:Ce)(q:Qu)(st:Int)(last:Bool)(w:Ig s c):ao prog 10 [.agg s.c,.agg c.c,.agg q.c,.int .i64 st,.bool last] (.int .i64 (Cf s c q st last)):=by
 by_cases he:lj s.key.h s.key.id s.key.root c.eQ c.sig=0
 ·by_cases oL:q.time<c.nb
  ·exact renter_n s c q st last w (.inr (.inl oL))
  by_cases mL:c.na<q.time
  ·exact renter_n s c q st last w (.inr (.inr (.inl mL)))
  cases hN:jY c.aT s.aT
  ·exact renter_n s c q st last w (.inr (.inr (.inr hN)))
  cases hq:q.status
  ·exact renter_f s c q st last w he oL mL hN hq
  exact renter_t s c q st last w he oL mL hN hq
 exact renter_n s c q st last w (.inl he)
end Go.Proofs.YtjlnoogcggdhkaaGreatDoor
