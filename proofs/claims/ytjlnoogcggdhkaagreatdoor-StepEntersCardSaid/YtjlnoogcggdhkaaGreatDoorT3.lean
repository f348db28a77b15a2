/-
 STEP: the first checks of a certificate, both.
 Conditions: none.
-/
import Derived.Test.YtjlnoogcggdhkaaGreatDoorRb
set_option maxRecDepth 100000
set_option maxHeartbeats 32000000
set_option linter.all false
namespace Go.Stp
open Go.VS Go.Proofs.YtjlnoogcggdhkaaGreatDoor
def P4(s:Pg)(c:Ce):Bool:=decide (lj s.key.h s.key.id s.key.root c.eQ c.sig≠0)
def Bp(c:Ce)(q:Qu):Bool:=decide (q.time<c.nb)||decide (c.na<q.time)
def P5(s:Pg)(c:Ce):Bool:=!jY c.aT s.aT
def ym(q:Qu)(st:Int):Bool:=q.status&&(decide (st=2)||decide (st=3))
def Bq(q:Qu)(st:Int):Bool:=q.status&&decide (st≠1)
def P6(s:Pg)(c:Ce)(last:Bool):Bool:=(last||!gV c)&&!pP s.names c.bq c.info.names
def yL(b1 b2 b3 b4 b5 b6:Bool):Int:=if b1 then 1 else if b2 then 2 else if b3 then 3 else if b4 then 4 else if b5 then 5 else if b6 then 6 else 0
def Cf(s:Pg)(c:Ce)(q:Qu)(st:Int)(last:Bool):Int:=yL (P4 s c) (Bp c q) (P5 s c) (ym q st) (Bq q st) (P6 s c last)
structure Ig (s : Pg) (c : Ce) : Prop where
 vL:WN c.aT
 sub:WN c.bq
 names:WG c.info.names
 XW:WN s.aT
 sn:Bn s.names
 key:s.key.id.length≤100000000∧s.key.root.length≤100000000
 eQ:c.eQ.length≤200000000
 sig:c.sig.length≤200000000
end Go.Stp
namespace Go.Proofs.YtjlnoogcggdhkaaGreatDoor
open Go.Proofs.Tryz
open Go.VS Go.Stp
attribute [local irreducible] bj au bE aS bz lj
theorem Ir(c:Ce)(s:Pg)(w:Ig s c):ao prog 21 [.agg c.c,.agg [.int .i64 s.key.h,.str s.key.id,.str s.key.root]] (.int .i64 (lj s.key.h s.key.id s.key.root c.eQ c.sig)):=by
 have hv:=Lv s.key.h s.key.id s.key.root c.eQ c.sig (by have:=w.key.1;omega) (by have:=w.key.2;omega) w.eQ (by have:=w.sig;omega)
 rw[Ce.c.eq_1]
 refine ah func21 rfl call21 ?_ ?_
 rotate_left 1
 refine af (s':=(.agg [.str c.raw,.str c.eQ,.int .i64 c.dK,aW c.aT,aW c.bq,.int .i64 c.nb,.int .i64 c.na,.int .i64 c.key.h,.str c.key.id,.str c.key.root,.bool c.info.basic,.bool c.info.ca,.int .i64 c.info.gz,.int .i64 c.info.bM,bY c.info.cT,bY c.info.bG,ff c.info.maps,.int .i64 c.info.gA,.int .i64 c.info.gB,.int .i64 c.info.gC,aX c.info.names,.bool c.info.fV,aX c.info.cons.p,aX c.info.cons.x,.str c.info.sk,.str c.info.ak,cM c.info.points,cM c.info.fresh,gk c.info.gn,.str c.sig]:V)::(.agg [.int .i64 s.key.h,.str s.key.id,.str s.key.root]:V)::zJ 9) rfl ?_;dsimp only[zJ]
 repeat' (first|refine Z2 hv ?_|refine Zt ?_|fail)
 ·exact .pure .int
 ·exact .int
theorem Lw(s:Pg)(c:Ce)(w:Ig s c):ao prog 20 [.aL [.str c.raw,.str c.eQ,.int .i64 c.dK,aW c.aT,aW c.bq,.int .i64 c.nb,.int .i64 c.na,.int .i64 c.key.h,.str c.key.id,.str c.key.root,.bool c.info.basic,.bool c.info.ca,.int .i64 c.info.gz,.int .i64 c.info.bM,bY c.info.cT,bY c.info.bG,ff c.info.maps,.int .i64 c.info.gA,.int .i64 c.info.gB,.int .i64 c.info.gC,aX c.info.names,.bool c.info.fV,aX c.info.cons.p,aX c.info.cons.x,.str c.info.sk,.str c.info.ak,cM c.info.points,cM c.info.fresh,gk c.info.gn,.str c.sig],.aL [aW s.aT,.int .i64 s.key.h,.str s.key.id,.str s.key.root,.bool s.lists,.int .i64 s.len,.int .i64 s.dh,.int .i64 s.map,.int .i64 s.any,cU s.names]] (.bool (P4 s c)):=by
 have hv:=Ir c s w
 rw[Ce.c.eq_1]at hv
 unfold P4
 generalize lj s.key.h s.key.id s.key.root c.eQ c.sig=e at*
 refine ah func20 rfl call20 ?_ ?_
 rotate_left 1
 refine af (s':=(.aL [.str c.raw,.str c.eQ,.int .i64 c.dK,aW c.aT,aW c.bq,.int .i64 c.nb,.int .i64 c.na,.int .i64 c.key.h,.str c.key.id,.str c.key.root,.bool c.info.basic,.bool c.info.ca,.int .i64 c.info.gz,.int .i64 c.info.bM,bY c.info.cT,bY c.info.bG,ff c.info.maps,.int .i64 c.info.gA,.int .i64 c.info.gB,.int .i64 c.info.gC,aX c.info.names,.bool c.info.fV,aX c.info.cons.p,aX c.info.cons.x,.str c.info.sk,.str c.info.ak,cM c.info.points,cM c.info.fresh,gk c.info.gn,.str c.sig]:V)::(.aL [aW s.aT,.int .i64 s.key.h,.str s.key.id,.str s.key.root,.bool s.lists,.int .i64 s.len,.int .i64 s.dh,.int .i64 s.map,.int .i64 s.any,cU s.names]:V)::zJ 6) rfl ?_;dsimp only[zJ]
 by_cases he:e=0
 ·rw[he]at hv⊢
  repeat' (first|refine Z2 hv ?_|refine Zt ?_|fail)
  (try simp)
  exact .pure .bool
 ·have hb:(e !=0)=true:=by simpa using he
  repeat' (first|refine Z1 he hv ?_|refine Zt ?_|fail)
  (try simp[he,hb])
  exact .pure .bool
 exact .bool
theorem Lx(q:Qu)(c:Ce):ao prog 22 [.aL [.int .i64 q.time,.str q.iH,.int .i64 q.bM,bY q.bG,.bool q.dh,.bool q.jZ,.bool q.j0,aX q.names,.int .i64 q.gL,.bool q.status,jh q.dD],.aL [.str c.raw,.str c.eQ,.int .i64 c.dK,aW c.aT,aW c.bq,.int .i64 c.nb,.int .i64 c.na,.int .i64 c.key.h,.str c.key.id,.str c.key.root,.bool c.info.basic,.bool c.info.ca,.int .i64 c.info.gz,.int .i64 c.info.bM,bY c.info.cT,bY c.info.bG,ff c.info.maps,.int .i64 c.info.gA,.int .i64 c.info.gB,.int .i64 c.info.gC,aX c.info.names,.bool c.info.fV,aX c.info.cons.p,aX c.info.cons.x,.str c.info.sk,.str c.info.ak,cM c.info.points,cM c.info.fresh,gk c.info.gn,.str c.sig]] (.bool (Bp c q)):=by
 unfold Bp
 refine ah func22 rfl call22 ?_ ?_
 rotate_left 1
 refine af (s':=(.aL [.int .i64 q.time,.str q.iH,.int .i64 q.bM,bY q.bG,.bool q.dh,.bool q.jZ,.bool q.j0,aX q.names,.int .i64 q.gL,.bool q.status,jh q.dD]:V)::(.aL [.str c.raw,.str c.eQ,.int .i64 c.dK,aW c.aT,aW c.bq,.int .i64 c.nb,.int .i64 c.na,.int .i64 c.key.h,.str c.key.id,.str c.key.root,.bool c.info.basic,.bool c.info.ca,.int .i64 c.info.gz,.int .i64 c.info.bM,bY c.info.cT,bY c.info.bG,ff c.info.maps,.int .i64 c.info.gA,.int .i64 c.info.gB,.int .i64 c.info.gC,aX c.info.names,.bool c.info.fV,aX c.info.cons.p,aX c.info.cons.x,.str c.info.sk,.str c.info.ak,cM c.info.points,cM c.info.fresh,gk c.info.gn,.str c.sig]:V)::zJ 13) rfl ?_;dsimp only[zJ]
 by_cases h1:q.time<c.nb
 ·repeat' (first|refine b9 h1 ?_|refine ay ?_|refine aK h1 ?_|fail)
  (try simp[h1])
  exact .pure .bool
 ·by_cases h2:c.na<q.time
  ·repeat' (first|refine b9 (Zj h1 h2) ?_|refine ay ?_|refine aK (Zj h1 h2) ?_|fail)
   (try simp[h1,h2])
   exact .pure .bool
  ·repeat' (first|refine b9 (Zj h1 h2) ?_|refine ay ?_|refine aK (Zj h1 h2) ?_|fail)
   (try simp[h1,h2])
   exact .pure .bool
 exact .bool
theorem Ly(s:Pg)(c:Ce)(w:Ig s c):ao prog 23 [.aL [.str c.raw,.str c.eQ,.int .i64 c.dK,aW c.aT,aW c.bq,.int .i64 c.nb,.int .i64 c.na,.int .i64 c.key.h,.str c.key.id,.str c.key.root,.bool c.info.basic,.bool c.info.ca,.int .i64 c.info.gz,.int .i64 c.info.bM,bY c.info.cT,bY c.info.bG,ff c.info.maps,.int .i64 c.info.gA,.int .i64 c.info.gB,.int .i64 c.info.gC,aX c.info.names,.bool c.info.fV,aX c.info.cons.p,aX c.info.cons.x,.str c.info.sk,.str c.info.ak,cM c.info.points,cM c.info.fresh,gk c.info.gn,.str c.sig],.aL [aW s.aT,.int .i64 s.key.h,.str s.key.id,.str s.key.root,.bool s.lists,.int .i64 s.len,.int .i64 s.dh,.int .i64 s.map,.int .i64 s.any,cU s.names]] (.bool (P5 s c)):=by
 have hm:=Bv c.aT s.aT w.vL w.XW
 unfold P5
 generalize jY c.aT s.aT=e at*
 refine ah func23 rfl call23 ?_ ?_
 rotate_left 1
 refine af (s':=(.aL [.str c.raw,.str c.eQ,.int .i64 c.dK,aW c.aT,aW c.bq,.int .i64 c.nb,.int .i64 c.na,.int .i64 c.key.h,.str c.key.id,.str c.key.root,.bool c.info.basic,.bool c.info.ca,.int .i64 c.info.gz,.int .i64 c.info.bM,bY c.info.cT,bY c.info.bG,ff c.info.maps,.int .i64 c.info.gA,.int .i64 c.info.gB,.int .i64 c.info.gC,aX c.info.names,.bool c.info.fV,aX c.info.cons.p,aX c.info.cons.x,.str c.info.sk,.str c.info.ak,cM c.info.points,cM c.info.fresh,gk c.info.gn,.str c.sig]:V)::(.aL [aW s.aT,.int .i64 s.key.h,.str s.key.id,.str s.key.root,.bool s.lists,.int .i64 s.len,.int .i64 s.dh,.int .i64 s.map,.int .i64 s.any,cU s.names]:V)::zJ 7) rfl ?_;dsimp only[zJ]
 repeat' (first|refine Z2 hm ?_|refine Zt ?_|fail)
 ·exact .pure .bool
 ·exact .bool
theorem Lz(q:Qu)(st:Int):ao prog 25 [.aL [.int .i64 q.time,.str q.iH,.int .i64 q.bM,bY q.bG,.bool q.dh,.bool q.jZ,.bool q.j0,aX q.names,.int .i64 q.gL,.bool q.status,jh q.dD],.aL [.int .i64 st]] (.bool (ym q st)):=by
 unfold ym
 refine ah func25 rfl call25 ?_ ?_
 rotate_left 1
 refine af (s':=(.aL [.int .i64 q.time,.str q.iH,.int .i64 q.bM,bY q.bG,.bool q.dh,.bool q.jZ,.bool q.j0,aX q.names,.int .i64 q.gL,.bool q.status,jh q.dD]:V)::(.aL [.int .i64 st]:V)::zJ 11) rfl ?_;dsimp only[zJ]
 cases hq:q.status
 ·repeat' (first|refine b9 hq ?_|refine ay ?_|refine aK hq ?_|fail)
  exact .pure .bool
 ·by_cases h2:st=2
  ·repeat' (first|refine b9 (Zj hq h2) ?_|refine ay ?_|refine aK (Zj hq h2) ?_|fail)
   (try simp[h2])
   exact .pure .bool
  ·by_cases h3:st=3
   ·repeat' (first|refine b9 (Zj hq (Zj h2 h3)) ?_|refine ay ?_|refine aK (Zj hq (Zj h2 h3)) ?_|fail)
    (try simp[h2,h3])
    exact .pure .bool
   ·have nj:(st==2)=false:=by simpa using h2
    have Yy:(st==3)=false:=by simpa using h3
    repeat' (first|refine b9 (Zj hq (Zj h2 h3)) ?_|refine ay ?_|refine aK (Zj hq (Zj h2 h3)) ?_|fail)
    (try simp[h2,h3,nj,Yy])
    exact .pure .bool
 exact .bool
theorem LA(q:Qu)(st:Int):ao prog 26 [.aL [.int .i64 q.time,.str q.iH,.int .i64 q.bM,bY q.bG,.bool q.dh,.bool q.jZ,.bool q.j0,aX q.names,.int .i64 q.gL,.bool q.status,jh q.dD],.aL [.int .i64 st]] (.bool (Bq q st)):=by
 unfold Bq
 refine ah func26 rfl call26 ?_ ?_
 rotate_left 1
 refine af (s':=(.aL [.int .i64 q.time,.str q.iH,.int .i64 q.bM,bY q.bG,.bool q.dh,.bool q.jZ,.bool q.j0,aX q.names,.int .i64 q.gL,.bool q.status,jh q.dD]:V)::(.aL [.int .i64 st]:V)::zJ 7) rfl ?_;dsimp only[zJ]
 cases hq:q.status
 ·repeat' (first|refine b9 hq ?_|refine ay ?_|refine aK hq ?_|fail)
  exact .pure .bool
 ·by_cases h2:st=1
  ·repeat' (first|refine b9 (Zj hq h2) ?_|refine ay ?_|refine aK (Zj hq h2) ?_|fail)
   (try simp[h2])
   exact .pure .bool
  ·have nj:(st !=1)=true:=by simpa using h2
   repeat' (first|refine b9 (Zj hq h2) ?_|refine ay ?_|refine aK (Zj hq h2) ?_|fail)
   (try simp[h2,nj])
   exact .pure .bool
 exact .bool
theorem LB(s:Pg)(c:Ce)(last:Bool)(w:Ig s c):ao prog 27 [.aL [.bool last],.aL [.str c.raw,.str c.eQ,.int .i64 c.dK,aW c.aT,aW c.bq,.int .i64 c.nb,.int .i64 c.na,.int .i64 c.key.h,.str c.key.id,.str c.key.root,.bool c.info.basic,.bool c.info.ca,.int .i64 c.info.gz,.int .i64 c.info.bM,bY c.info.cT,bY c.info.bG,ff c.info.maps,.int .i64 c.info.gA,.int .i64 c.info.gB,.int .i64 c.info.gC,aX c.info.names,.bool c.info.fV,aX c.info.cons.p,aX c.info.cons.x,.str c.info.sk,.str c.info.ak,cM c.info.points,cM c.info.fresh,gk c.info.gn,.str c.sig],.aL [aW s.aT,.int .i64 s.key.h,.str s.key.id,.str s.key.root,.bool s.lists,.int .i64 s.len,.int .i64 s.dh,.int .i64 s.map,.int .i64 s.any,cU s.names]] (.bool (P6 s c last)):=by
 have hs:=ui c w.vL w.sub
 have hp:=Hv s.names c.bq c.info.names w.sn w.sub w.names
 rw[Ce.c.eq_1]at hs
 unfold P6
 generalize pP s.names c.bq c.info.names=P at*
 generalize gV c=B at*
 refine ah func27 rfl call27 ?_ ?_
 rotate_left 1
 refine af (s':=(.aL [.bool last]:V)::(.aL [.str c.raw,.str c.eQ,.int .i64 c.dK,aW c.aT,aW c.bq,.int .i64 c.nb,.int .i64 c.na,.int .i64 c.key.h,.str c.key.id,.str c.key.root,.bool c.info.basic,.bool c.info.ca,.int .i64 c.info.gz,.int .i64 c.info.bM,bY c.info.cT,bY c.info.bG,ff c.info.maps,.int .i64 c.info.gA,.int .i64 c.info.gB,.int .i64 c.info.gC,aX c.info.names,.bool c.info.fV,aX c.info.cons.p,aX c.info.cons.x,.str c.info.sk,.str c.info.ak,cM c.info.points,cM c.info.fresh,gk c.info.gn,.str c.sig]:V)::(.aL [aW s.aT,.int .i64 s.key.h,.str s.key.id,.str s.key.root,.bool s.lists,.int .i64 s.len,.int .i64 s.dh,.int .i64 s.map,.int .i64 s.any,cU s.names]:V)::zJ 18) rfl ?_;dsimp only[zJ]
 cases last<;>cases B<;>cases P
 all_goals(
  repeat' (first|refine od (Zj hs hp) ?_|refine ay ?_|refine gm ?_|fail)
  (try simp)
  (try exact .pure .bool))
theorem NW(s:Pg)(c:Ce)(q:Qu)(st:Int)(last:Bool)(w:Ig s c):ao prog 9 [.agg s.c,.agg c.c,.agg q.c,.int .i64 st,.bool last] (.int .i64 (Cf s c q st last)):=by
 have h1:=Lw s c w
 have h2:=Lx q c
 have h3:=Ly s c w
 have h4:=Lz q st
 have h5:=LA q st
 have h6:=LB s c last w
 have fB:=Pg.fC s
 have jQ:=Ce.fC c
 have nk:=Qu.fC q
 unfold Cf
 generalize P4 s c=b1 at*
 generalize Bp c q=b2 at*
 generalize P5 s c=b3 at*
 generalize ym q st=b4 at*
 generalize Bq q st=b5 at*
 generalize P6 s c last=b6 at*
 rw[show[aW s.aT,.int .i64 s.key.h,.str s.key.id,.str s.key.root,.bool s.lists,.int .i64 s.len,.int .i64 s.dh,.int .i64 s.map,.int .i64 s.any,cU s.names]=s.c from rfl]at*
 rw[show[.str c.raw,.str c.eQ,.int .i64 c.dK,aW c.aT,aW c.bq,.int .i64 c.nb,.int .i64 c.na,.int .i64 c.key.h,.str c.key.id,.str c.key.root,.bool c.info.basic,.bool c.info.ca,.int .i64 c.info.gz,.int .i64 c.info.bM,bY c.info.cT,bY c.info.bG,ff c.info.maps,.int .i64 c.info.gA,.int .i64 c.info.gB,.int .i64 c.info.gC,aX c.info.names,.bool c.info.fV,aX c.info.cons.p,aX c.info.cons.x,.str c.info.sk,.str c.info.ak,cM c.info.points,cM c.info.fresh,gk c.info.gn,.str c.sig]=c.c from rfl]at*
 rw[show[.int .i64 q.time,.str q.iH,.int .i64 q.bM,bY q.bG,.bool q.dh,.bool q.jZ,.bool q.j0,aX q.names,.int .i64 q.gL,.bool q.status,jh q.dD]=q.c from rfl]at*
 have jR:s.c≠ []:=by rw[Pg.c.eq_1];simp
 have gN:c.c≠ []:=by rw[Ce.c.eq_1];simp
 have jS:q.c≠ []:=by rw[Qu.c.eq_1];simp
 generalize s.c=S at*
 generalize c.c=X at*
 generalize q.c=Q at*
 refine ah func9 rfl call9 ?_ ?_
 rotate_left 1
 refine af (s':=(.agg S:V)::(.agg X:V)::(.agg Q:V)::(.int .i64 st:V)::(.bool last:V)::zJ 32) rfl ?_;dsimp only[zJ]
 all_goals(try exact .int)
 cases b1
 rotate_left
 ·repeat' (first|(refine Zu ?_;intro K9 h9;simp(disch:=first|exact dd|fail) [jR,gN,jS];refine Zm ?_;((first|refine aI h1 ⟨aA rfl gN jQ,aA rfl jR fB,trivial⟩ (by simp) ?_|refine aI h2 ⟨aA rfl jS nk,aA rfl gN jQ,trivial⟩ (by simp) ?_|refine aI h3 ⟨aA rfl gN jQ,aA rfl jR fB,trivial⟩ (by simp) ?_|refine aI h4 ⟨aA rfl jS nk,aA rfl (by simp) (by simp),trivial⟩ (by simp) ?_|refine aI h5 ⟨aA rfl jS nk,aA rfl (by simp) (by simp),trivial⟩ (by simp) ?_|refine aI h6 ⟨aA rfl (by simp) (by simp),aA rfl gN jQ,aA rfl jR fB,trivial⟩ (by simp) ?_|skip)<;>(refine Zf h9 ?_;clear h9 K9)))|refine Zt ?_|(refine cC 6 fun KL hL=>?_)|refine Y8 fun K hK=>?_|(apply hK;clear hK K)|(refine Yb rfl ?_ ?_<;>intro ab<;>(try simp at ab)<;>try exact dc)|refine Zx ?_|clear hK K|(refine hL _ _ _ ?_)|(clear hK K)|(clear hL KL))
  (try simp[yL])
  exact .pure .int
 cases b2
 rotate_left
 ·repeat' (first|(refine Zu ?_;intro K9 h9;simp(disch:=first|exact dd|fail) [jR,gN,jS];refine Zm ?_;((first|refine aI h1 ⟨aA rfl gN jQ,aA rfl jR fB,trivial⟩ (by simp) ?_|refine aI h2 ⟨aA rfl jS nk,aA rfl gN jQ,trivial⟩ (by simp) ?_|refine aI h3 ⟨aA rfl gN jQ,aA rfl jR fB,trivial⟩ (by simp) ?_|refine aI h4 ⟨aA rfl jS nk,aA rfl (by simp) (by simp),trivial⟩ (by simp) ?_|refine aI h5 ⟨aA rfl jS nk,aA rfl (by simp) (by simp),trivial⟩ (by simp) ?_|refine aI h6 ⟨aA rfl (by simp) (by simp),aA rfl gN jQ,aA rfl jR fB,trivial⟩ (by simp) ?_|skip)<;>(refine Zf h9 ?_;clear h9 K9)))|refine Zt ?_|(refine cC 6 fun KL hL=>?_)|refine Y8 fun K hK=>?_|(apply hK;clear hK K)|(refine Yb rfl ?_ ?_<;>intro ab<;>(try simp at ab)<;>try exact dc)|refine Zx ?_|clear hK K|(refine hL _ _ _ ?_)|(clear hK K)|(clear hL KL))
  (try simp[yL])
  exact .pure .int
 cases b3
 rotate_left
 ·repeat' (first|(refine Zu ?_;intro K9 h9;simp(disch:=first|exact dd|fail) [jR,gN,jS];refine Zm ?_;((first|refine aI h1 ⟨aA rfl gN jQ,aA rfl jR fB,trivial⟩ (by simp) ?_|refine aI h2 ⟨aA rfl jS nk,aA rfl gN jQ,trivial⟩ (by simp) ?_|refine aI h3 ⟨aA rfl gN jQ,aA rfl jR fB,trivial⟩ (by simp) ?_|refine aI h4 ⟨aA rfl jS nk,aA rfl (by simp) (by simp),trivial⟩ (by simp) ?_|refine aI h5 ⟨aA rfl jS nk,aA rfl (by simp) (by simp),trivial⟩ (by simp) ?_|refine aI h6 ⟨aA rfl (by simp) (by simp),aA rfl gN jQ,aA rfl jR fB,trivial⟩ (by simp) ?_|skip)<;>(refine Zf h9 ?_;clear h9 K9)))|refine Zt ?_|(refine cC 6 fun KL hL=>?_)|refine Y8 fun K hK=>?_|(apply hK;clear hK K)|(refine Yb rfl ?_ ?_<;>intro ab<;>(try simp at ab)<;>try exact dc)|refine Zx ?_|clear hK K|(refine hL _ _ _ ?_)|(clear hK K)|(clear hL KL))
  (try simp[yL])
  exact .pure .int
 cases b4
 rotate_left
 ·repeat' (first|(refine Zu ?_;intro K9 h9;simp(disch:=first|exact dd|fail) [jR,gN,jS];refine Zm ?_;((first|refine aI h1 ⟨aA rfl gN jQ,aA rfl jR fB,trivial⟩ (by simp) ?_|refine aI h2 ⟨aA rfl jS nk,aA rfl gN jQ,trivial⟩ (by simp) ?_|refine aI h3 ⟨aA rfl gN jQ,aA rfl jR fB,trivial⟩ (by simp) ?_|refine aI h4 ⟨aA rfl jS nk,aA rfl (by simp) (by simp),trivial⟩ (by simp) ?_|refine aI h5 ⟨aA rfl jS nk,aA rfl (by simp) (by simp),trivial⟩ (by simp) ?_|refine aI h6 ⟨aA rfl (by simp) (by simp),aA rfl gN jQ,aA rfl jR fB,trivial⟩ (by simp) ?_|skip)<;>(refine Zf h9 ?_;clear h9 K9)))|refine Zt ?_|(refine cC 6 fun KL hL=>?_)|refine Y8 fun K hK=>?_|(apply hK;clear hK K)|(refine Yb rfl ?_ ?_<;>intro ab<;>(try simp at ab)<;>try exact dc)|refine Zx ?_|clear hK K|(refine hL _ _ _ ?_)|(clear hK K)|(clear hL KL))
  (try simp[yL])
  exact .pure .int
 cases b5
 rotate_left
 ·repeat' (first|(refine Zu ?_;intro K9 h9;simp(disch:=first|exact dd|fail) [jR,gN,jS];refine Zm ?_;((first|refine aI h1 ⟨aA rfl gN jQ,aA rfl jR fB,trivial⟩ (by simp) ?_|refine aI h2 ⟨aA rfl jS nk,aA rfl gN jQ,trivial⟩ (by simp) ?_|refine aI h3 ⟨aA rfl gN jQ,aA rfl jR fB,trivial⟩ (by simp) ?_|refine aI h4 ⟨aA rfl jS nk,aA rfl (by simp) (by simp),trivial⟩ (by simp) ?_|refine aI h5 ⟨aA rfl jS nk,aA rfl (by simp) (by simp),trivial⟩ (by simp) ?_|refine aI h6 ⟨aA rfl (by simp) (by simp),aA rfl gN jQ,aA rfl jR fB,trivial⟩ (by simp) ?_|skip)<;>(refine Zf h9 ?_;clear h9 K9)))|refine Zt ?_|(refine cC 6 fun KL hL=>?_)|refine Y8 fun K hK=>?_|(apply hK;clear hK K)|(refine Yb rfl ?_ ?_<;>intro ab<;>(try simp at ab)<;>try exact dc)|refine Zx ?_|clear hK K|(refine hL _ _ _ ?_)|(clear hK K)|(clear hL KL))
  (try simp[yL])
  exact .pure .int
 cases b6
 rotate_left
 ·repeat' (first|(refine Zu ?_;intro K9 h9;simp(disch:=first|exact dd|fail) [jR,gN,jS];refine Zm ?_;((first|refine aI h1 ⟨aA rfl gN jQ,aA rfl jR fB,trivial⟩ (by simp) ?_|refine aI h2 ⟨aA rfl jS nk,aA rfl gN jQ,trivial⟩ (by simp) ?_|refine aI h3 ⟨aA rfl gN jQ,aA rfl jR fB,trivial⟩ (by simp) ?_|refine aI h4 ⟨aA rfl jS nk,aA rfl (by simp) (by simp),trivial⟩ (by simp) ?_|refine aI h5 ⟨aA rfl jS nk,aA rfl (by simp) (by simp),trivial⟩ (by simp) ?_|refine aI h6 ⟨aA rfl (by simp) (by simp),aA rfl gN jQ,aA rfl jR fB,trivial⟩ (by simp) ?_|skip)<;>(refine Zf h9 ?_;clear h9 K9)))|refine Zt ?_|(refine cC 6 fun KL hL=>?_)|refine Y8 fun K hK=>?_|(apply hK;clear hK K)|(refine Yb rfl ?_ ?_<;>intro ab<;>(try simp at ab)<;>try exact dc)|refine Zx ?_|clear hK K|(refine hL _ _ _ ?_)|(clear hK K)|(clear hL KL))
  (try simp[yL])
  exact .pure .int
 ·repeat' (first|(refine Zu ?_;intro K9 h9;simp(disch:=first|exact dd|fail) [jR,gN,jS];refine Zm ?_;((first|refine aI h1 ⟨aA rfl gN jQ,aA rfl jR fB,trivial⟩ (by simp) ?_|refine aI h2 ⟨aA rfl jS nk,aA rfl gN jQ,trivial⟩ (by simp) ?_|refine aI h3 ⟨aA rfl gN jQ,aA rfl jR fB,trivial⟩ (by simp) ?_|refine aI h4 ⟨aA rfl jS nk,aA rfl (by simp) (by simp),trivial⟩ (by simp) ?_|refine aI h5 ⟨aA rfl jS nk,aA rfl (by simp) (by simp),trivial⟩ (by simp) ?_|refine aI h6 ⟨aA rfl (by simp) (by simp),aA rfl gN jQ,aA rfl jR fB,trivial⟩ (by simp) ?_|skip)<;>(refine Zf h9 ?_;clear h9 K9)))|refine Zt ?_|(refine cC 6 fun KL hL=>?_)|refine Y8 fun K hK=>?_|(apply hK;clear hK K)|(refine Yb rfl ?_ ?_<;>intro ab<;>(try simp at ab)<;>try exact dc)|refine Zx ?_|clear hK K|(refine hL _ _ _ ?_)|(clear hK K)|(clear hL KL))
  (try simp[yL])
  exact .pure .int
end Go.Proofs.YtjlnoogcggdhkaaGreatDoor
