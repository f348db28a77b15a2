/-
 STEP: Leave.
 Conditions: none.
-/
import Derived.Test.YtjlnoogcggdhkaaGreatDoorGl
set_option maxRecDepth 100000
set_option maxHeartbeats 32000000
namespace Go.Stp
open Go.VS
def vH(n:Int):Int:=if 0<n then n-1 else n
def lz(self:Bool)(n:Int):Int:=if self then n else vH n
def K8:Pg:=⟨[],⟨0,[],[]⟩,false,0,0,0,0,[]⟩
def EN(s:Pg)(c:Ce):Pg:=
 {aT:=c.bq,key:=c.key,lists:=decide (c.info.bM=0)||(bits .and .i64 c.info.bM 64 !=0),len:=iX (if gV c then s.len else s.len-1) c.info.gz,
  dh:=iX (lz (gV c) s.dh) c.info.gA,map:=iX (lz (gV c) s.map) c.info.gB,any:=iX (lz (gV c) s.any) c.info.gC,names:=if c.info.fV then s.names++[c.info.cons]else s.names}
def jb(s:Pg)(c:Ce):Int:=if c.info.maps.any kM then 8 else if c.info.ca=false then 9 else if gV c=false∧s.len<1 then 10 else if c.info.bM≠0∧bits .and .i64 c.info.bM 32=0 then 11 else 0
def mc(s:Pg)(c:Ce):Pg:=if jb s c=0 then EN s c else K8
def B8(n:Int):Prop:= -9223372036854775808≤n∧n≤9223372036854775807
structure V1 (s : Pg) (c : Ce) : Prop where
 sub:WN c.bq
 vL:WN c.aT
 maps:c.info.maps.length≤131072
 names:Bn s.names
 few:s.names.length≤60000
 cons:WS c.info.cons
 len:B8 s.len
 dh:B8 s.dh
 map:B8 s.map
 any:B8 s.any
end Go.Stp
namespace Go.Proofs.YtjlnoogcggdhkaaGreatDoor
open Go.Proofs.Tryz
open Go.VS Go.Stp
set_option linter.all false
attribute [local irreducible] bj au bE aS bz bits
theorem Mv(s:Pg)(c:Ce)(w:V1 s c)(h:jb s c≠0):ao prog 36 [.agg s.c,.agg c.c] (.aB [.agg K8.c,.int .i64 (jb s c)]):=by
 refine GC (r:=.aB [.agg [.aj,.int .i64 0,.str [],.str [],.bool false,.int .i64 0,.int .i64 0,.int .i64 0,.int .i64 0,.aj],.int .i64 (jb s c)]) ?_ rfl (by simp)
 have h1:=ui c w.vL w.sub
 have h2:=wv c.info.maps w.maps
 have hl:=w.len
 unfold B8 at hl
 unfold jb at*
 rw[Pg.c.eq_1,Ce.c.eq_1]at*
 generalize gV c=B at*
 generalize c.info.maps.any kM=M at*
 refine ah func36 rfl call36 ?_ ?_
 rotate_left 1
 refine af (s':=(.agg [aW s.aT,.int .i64 s.key.h,.str s.key.id,.str s.key.root,.bool s.lists,.int .i64 s.len,.int .i64 s.dh,.int .i64 s.map,.int .i64 s.any,cU s.names]:V)::(.agg [.str c.raw,.str c.eQ,.int .i64 c.dK,aW c.aT,aW c.bq,.int .i64 c.nb,.int .i64 c.na,.int .i64 c.key.h,.str c.key.id,.str c.key.root,.bool c.info.basic,.bool c.info.ca,.int .i64 c.info.gz,.int .i64 c.info.bM,bY c.info.cT,bY c.info.bG,ff c.info.maps,.int .i64 c.info.gA,.int .i64 c.info.gB,.int .i64 c.info.gC,aX c.info.names,.bool c.info.fV,aX c.info.cons.p,aX c.info.cons.x,.str c.info.sk,.str c.info.ak,cM c.info.points,cM c.info.fresh,gk c.info.gn,.str c.sig]:V)::zJ 133) rfl ?_;dsimp only[zJ]
 by_cases hM:M=true
 ·subst hM
  rw[if_pos rfl]
  repeat' (first|refine Z5 (Zj h1 h2) ?_|refine Zt ?_|(refine Zk 0 [] ?_;refine Zl ?_)|(refine Yb rfl ?_ ?_<;>intro ab<;>(try simp at ab)<;>try exact dc)|refine Zo ?_|fail)
  simp
  exact .pure (by simp)
 obtain rfl:M=false:=by simpa using hM
 rw[if_neg (by simp)]at h⊢
 by_cases me:c.info.ca=false
 ·rw[if_pos me]
  rw[me]at h1
  repeat' (first|refine Z4 me (Zj h1 h2) ?_|refine Zt ?_|(refine Zk 0 [] ?_;refine Zl ?_)|(refine Yb rfl ?_ ?_<;>intro ab<;>(try simp at ab)<;>try exact dc)|refine Z6 me ?_|fail)
  simp
  exact .pure (by simp)
 replace me:c.info.ca=true:=by simpa using me
 rw[me,if_neg (by simp)]at h
 rw[me]at h1
 rw[me,if_neg (by simp)]
 by_cases hB:B=false∧s.len<1
 ·rw[if_pos hB]
  obtain⟨rfl,aO⟩:=hB
  repeat' (first|refine Z4 (Zj me aO) (Zj h1 h2) ?_|refine Zt ?_|(refine Zk 0 [] ?_;refine Zl ?_)|(refine Yb rfl ?_ ?_<;>intro ab<;>(try simp at ab)<;>try exact dc)|refine Z6 (Zj me aO) ?_|fail)
  simp
  exact .pure (by simp)
 rw[if_neg hB]at h⊢
 by_cases hu:c.info.bM≠0∧bits .and .i64 c.info.bM 32=0
 ·rw[if_pos hu]
  obtain⟨kY,u3⟩:=hu
  cases B
  ·have aO: ¬s.len<1:=fun e=>hB ⟨rfl,e⟩
   repeat' (first|refine bS (Zj me (Zj aO (Zj kY u3))) (Zj h1 h2) ?_|refine ay ?_|(refine Zk 0 [] ?_;refine Zl ?_)|(refine Yb rfl ?_ ?_<;>intro ab<;>(try simp at ab)<;>try exact dc)|refine aK (Zj me (Zj aO (Zj kY u3))) ?_|fail)
   simp
   exact .pure (by simp)
  ·repeat' (first|refine bS (Zj me (Zj kY u3)) (Zj h1 h2) ?_|refine ay ?_|(refine Zk 0 [] ?_;refine Zl ?_)|(refine Yb rfl ?_ ?_<;>intro ab<;>(try simp at ab)<;>try exact dc)|refine aK (Zj me (Zj kY u3)) ?_|fail)
   simp
   exact .pure (by simp)
 rw[if_neg hu]at h
 exact absurd rfl h
 simp
end Go.Proofs.YtjlnoogcggdhkaaGreatDoor
namespace Go.Proofs.YtjlnoogcggdhkaaGreatDoor
open Go.Proofs.Tryz
open Go.VS Go.Stp
set_option linter.all false
attribute [local irreducible] bj au bE aS bz bits
theorem PH(s:Pg)(c:Ce)(w:V1 s c)(h:jb s c=0):ao prog 36 [.agg s.c,.agg c.c] (.aB [.agg (EN s c).c,.int .i64 0]):=by
 have h1:=ui c w.vL w.sub
 have h2:=wv c.info.maps w.maps
 have h3:=o8 c.bq w.sub
 have h4:=B7 s.names w.names
 have h5:=T3 s.names c.info.cons w.few w.names.2 w.cons
 have h6:ao prog 68 [.agg [cU (s.names++[c.info.cons])]] (.agg [cU (s.names++[c.info.cons])]):=by
  refine B7 _ ⟨by have:=w.few;simp;omega,fun x hx=>?_⟩
  simp at hx
  rcases hx with hx|rfl
  ·exact w.names.2 x hx
  ·exact w.cons
 have hl:=w.len
 have he:=w.dh
 have hmp:=w.map
 have han:=w.any
 unfold B8 at hl he hmp han
 unfold jb at h
 have e:(EN s c).c=[aW c.bq,.int .i64 c.key.h,.str c.key.id,.str c.key.root,.bool (decide (c.info.bM=0)||(bits .and .i64 c.info.bM 64 !=0)),.int .i64 (iX (if gV c then s.len else s.len-1) c.info.gz),.int .i64 (iX (lz (gV c) s.dh) c.info.gA),.int .i64 (iX (lz (gV c) s.map) c.info.gB),.int .i64 (iX (lz (gV c) s.any) c.info.gC),cU (if c.info.fV then s.names++[c.info.cons]else s.names)]:=rfl
 rw[e]
 clear e
 replace h5:ao prog 69 [.agg [cU s.names],.agg [aX c.info.cons.p,aX c.info.cons.x]] (.agg [cU (s.names++[c.info.cons])]):=h5
 rw[Pg.c.eq_1,Ce.c.eq_1]at*
 generalize gV c=B at*
 generalize c.info.maps.any kM=M at*
 have hM:M=false:=by cases M<;>simp at h⊢
 subst hM
 rw[if_neg (by simp)]at h
 have me:c.info.ca=true:=by
  cases me:c.info.ca
  ·rw[me]at h;simp at h
  ·rfl
 rw[me,if_neg (by simp)]at h
 by_cases hB:B=false∧s.len<1
 ·rw[if_pos hB]at h;simp at h
 rw[if_neg hB]at h
 by_cases hu:c.info.bM≠0∧bits .and .i64 c.info.bM 32=0
 ·rw[if_pos hu]at h;simp at h
 clear h
 rw[me]at h1
 obtain⟨L,V2⟩: ∃L,(decide (c.info.bM=0)||(bits .and .i64 c.info.bM 64 !=0))=L:=⟨_,rfl⟩
 obtain⟨ns,KP⟩: ∃ns,(if c.info.fV=true then s.names++[c.info.cons]else s.names)=ns:=⟨_,rfl⟩
 rw[V2,me,KP]
 refine ah func36 rfl call36 ?_ ?_
 rotate_left 1
 refine af (s':=(.agg [aW s.aT,.int .i64 s.key.h,.str s.key.id,.str s.key.root,.bool s.lists,.int .i64 s.len,.int .i64 s.dh,.int .i64 s.map,.int .i64 s.any,cU s.names]:V)::(.agg [.str c.raw,.str c.eQ,.int .i64 c.dK,aW c.aT,aW c.bq,.int .i64 c.nb,.int .i64 c.na,.int .i64 c.key.h,.str c.key.id,.str c.key.root,.bool c.info.basic,.bool true,.int .i64 c.info.gz,.int .i64 c.info.bM,bY c.info.cT,bY c.info.bG,ff c.info.maps,.int .i64 c.info.gA,.int .i64 c.info.gB,.int .i64 c.info.gC,aX c.info.names,.bool c.info.fV,aX c.info.cons.p,aX c.info.cons.x,.str c.info.sk,.str c.info.ak,cM c.info.points,cM c.info.fresh,gk c.info.gn,.str c.sig]:V)::zJ 133) rfl ?_;dsimp only[zJ]
 iterate 20 (first|refine Z4 me h1 ?_|refine Zt ?_|refine Y8 fun K hK=>?_|(apply hK;clear hK K)|(refine Zk 0 [] ?_;refine Zl ?_)|(refine Yb rfl ?_ ?_<;>intro ab<;>(try simp at ab)<;>try exact dc)|refine Z6 me ?_|refine Zx ?_|(clear hK K;first|(apply hK;clear hK K)|(clear hK K;first|(apply hK;clear hK K)|(clear hK K;first|(apply hK;clear hK K)|(clear hK K;apply hK;clear hK K)))))
 refine nU fun K hK hL=>?_
 have main:K ((V.aa::V.aa::(V.ref 0 0)::(V.ref 1 0)::(V.ref 2 0)::(V.int .i64 0)::V.aa::(V.bool B)::V.aa::V.aa::V.aa::V.aa::V.aa::V.aa::V.aa::V.aa::V.aa::V.aa::V.aa::V.aa::V.aa::V.aa::V.aa::V.aa::V.aa::V.aa::V.aa::V.aa::V.aa::V.aa::V.aa::V.aa::V.aa::V.aa::V.aa::V.aa::V.aa::V.aa::V.aa::V.aa::V.aa::V.aa::V.aa::V.aa::V.aa::V.aa::V.aa::V.aa::V.aa::V.aa::V.aa::V.aa::V.aa::V.aa::V.aa::V.aa::V.aa::V.aa::V.aa::V.aa::V.aa::V.aa::V.aa::V.aa::V.aa::V.aa::V.aa::V.aa::V.aa::V.aa::V.aa::V.aa::V.aa::V.aa::V.aa::V.aa::V.aa::V.aa::V.aa::V.aa::V.aa::V.aa::V.aa::V.aa::V.aa::V.aa::V.aa::V.aa::V.aa::V.aa::V.aa::V.aa::V.aa::V.aa::V.aa::V.aa::V.aa::V.aa::V.aa::V.aa::V.aa::V.aa::V.aa::V.aa::V.aa::V.aa::V.aa::V.aa::V.aa::V.aa::V.aa::V.aa::V.aa::V.aa::V.aa::V.aa::V.aa::V.aa::V.aa::V.aa::V.aa::V.aa::V.aa::V.aa::V.aa::V.aa::V.aa::V.aa::V.aa::V.aa::V.aa::V.aa::V.aa::V.aa::V.aa::[])) [.live [aW s.aT,.int .i64 s.key.h,.str s.key.id,.str s.key.root,.bool s.lists,.int .i64 s.len,.int .i64 s.dh,.int .i64 s.map,.int .i64 s.any,cU s.names],.live [.str c.raw,.str c.eQ,.int .i64 c.dK,aW c.aT,aW c.bq,.int .i64 c.nb,.int .i64 c.na,.int .i64 c.key.h,.str c.key.id,.str c.key.root,.bool c.info.basic,.bool true,.int .i64 c.info.gz,.int .i64 c.info.bM,bY c.info.cT,bY c.info.bG,ff c.info.maps,.int .i64 c.info.gA,.int .i64 c.info.gB,.int .i64 c.info.gC,aX c.info.names,.bool c.info.fV,aX c.info.cons.p,aX c.info.cons.x,.str c.info.sk,.str c.info.ak,cM c.info.points,cM c.info.fresh,gk c.info.gn,.str c.sig],.live [.aj,.int .i64 0,.str [],.str [],.bool false,.int .i64 0,.int .i64 0,.int .i64 0,.int .i64 0,.aj]]:=by
  refine hK _ _ ?_
  clear hK hL K
  refine nU fun K hK hL=>?_
  have main:K ((V.aa::V.aa::(V.ref 0 0)::(V.ref 1 0)::(V.ref 2 0)::(V.int .i64 0)::V.aa::(V.bool B)::V.aa::V.aa::V.aa::V.aa::V.aa::V.aa::V.aa::V.aa::V.aa::V.aa::V.aa::V.aa::V.aa::V.aa::V.aa::V.aa::V.aa::V.aa::V.aa::V.aa::V.aa::V.aa::V.aa::V.aa::V.aa::V.aa::V.aa::V.aa::V.aa::V.aa::V.aa::V.aa::V.aa::V.aa::V.aa::V.aa::V.aa::V.aa::V.aa::V.aa::V.aa::V.aa::V.aa::V.aa::V.aa::V.aa::V.aa::V.aa::V.aa::V.aa::V.aa::V.aa::V.aa::V.aa::V.aa::V.aa::V.aa::V.aa::V.aa::V.aa::V.aa::V.aa::V.aa::V.aa::V.aa::V.aa::V.aa::V.aa::V.aa::V.aa::V.aa::V.aa::V.aa::V.aa::V.aa::V.aa::V.aa::V.aa::V.aa::V.aa::V.aa::V.aa::V.aa::V.aa::V.aa::V.aa::V.aa::V.aa::V.aa::V.aa::V.aa::V.aa::V.aa::V.aa::V.aa::V.aa::V.aa::V.aa::V.aa::V.aa::V.aa::V.aa::V.aa::V.aa::V.aa::V.aa::V.aa::V.aa::V.aa::V.aa::V.aa::V.aa::V.aa::V.aa::V.aa::V.aa::V.aa::V.aa::V.aa::V.aa::V.aa::V.aa::V.aa::V.aa::V.aa::V.aa::V.aa::[])) [.live [aW c.bq,.int .i64 c.key.h,.str c.key.id,.str c.key.root,.bool L,.int .i64 s.len,.int .i64 s.dh,.int .i64 s.map,.int .i64 s.any,cU s.names],.live [.str c.raw,.str c.eQ,.int .i64 c.dK,aW c.aT,aW c.bq,.int .i64 c.nb,.int .i64 c.na,.int .i64 c.key.h,.str c.key.id,.str c.key.root,.bool c.info.basic,.bool true,.int .i64 c.info.gz,.int .i64 c.info.bM,bY c.info.cT,bY c.info.bG,ff c.info.maps,.int .i64 c.info.gA,.int .i64 c.info.gB,.int .i64 c.info.gC,aX c.info.names,.bool c.info.fV,aX c.info.cons.p,aX c.info.cons.x,.str c.info.sk,.str c.info.ak,cM c.info.points,cM c.info.fresh,gk c.info.gn,.str c.sig],.live [.aj,.int .i64 0,.str [],.str [],.bool false,.int .i64 0,.int .i64 0,.int .i64 0,.int .i64 0,.aj]]:=by
   refine hK _ _ ?_
   clear hK hL K
   clear V2
   iterate 9 (first|refine Z5 h4 ?_|refine Zt ?_|refine Y8 fun K hK=>?_|(apply hK;clear hK K)|(refine Zk 0 [] ?_;refine Zl ?_)|(refine Yb rfl ?_ ?_<;>intro ab<;>(try simp at ab)<;>try exact dc)|refine Zo ?_|refine Zx ?_|(clear hK K;first|(apply hK;clear hK K)|(clear hK K;first|(apply hK;clear hK K)|(clear hK K;first|(apply hK;clear hK K)|(clear hK K;apply hK;clear hK K)))))
   refine nU fun K hK hL=>?_
   have main:K ((V.aa::V.aa::(V.ref 0 0)::(V.ref 1 0)::(V.ref 2 0)::(V.int .i64 0)::V.aa::(V.bool B)::V.aa::V.aa::V.aa::V.aa::V.aa::V.aa::V.aa::V.aa::V.aa::V.aa::V.aa::V.aa::V.aa::V.aa::V.aa::V.aa::V.aa::V.aa::V.aa::V.aa::V.aa::V.aa::V.aa::V.aa::V.aa::V.aa::V.aa::V.aa::V.aa::V.aa::V.aa::V.aa::V.aa::V.aa::V.aa::V.aa::V.aa::V.aa::V.aa::V.aa::V.aa::V.aa::V.aa::V.aa::V.aa::V.aa::V.aa::V.aa::V.aa::V.aa::V.aa::V.aa::V.aa::V.aa::V.aa::V.aa::V.aa::V.aa::V.aa::V.aa::V.aa::V.aa::V.aa::V.aa::V.aa::V.aa::V.aa::V.aa::V.aa::V.aa::V.aa::V.aa::V.aa::V.aa::V.aa::V.aa::V.aa::V.aa::V.aa::V.aa::V.aa::V.aa::V.aa::V.aa::V.aa::V.aa::V.aa::V.aa::V.aa::V.aa::V.aa::V.aa::V.aa::V.aa::V.aa::V.aa::V.aa::V.aa::V.aa::V.aa::V.aa::V.aa::V.aa::V.aa::V.aa::V.aa::V.aa::V.aa::V.aa::V.aa::V.aa::V.aa::V.aa::V.aa::V.aa::V.aa::V.aa::V.aa::V.aa::V.aa::V.aa::V.aa::V.aa::V.aa::V.aa::V.aa::V.aa::[])) [.live [aW c.bq,.int .i64 c.key.h,.str c.key.id,.str c.key.root,.bool L,.int .i64 s.len,.int .i64 s.dh,.int .i64 s.map,.int .i64 s.any,cU ns],.live [.str c.raw,.str c.eQ,.int .i64 c.dK,aW c.aT,aW c.bq,.int .i64 c.nb,.int .i64 c.na,.int .i64 c.key.h,.str c.key.id,.str c.key.root,.bool c.info.basic,.bool true,.int .i64 c.info.gz,.int .i64 c.info.bM,bY c.info.cT,bY c.info.bG,ff c.info.maps,.int .i64 c.info.gA,.int .i64 c.info.gB,.int .i64 c.info.gC,aX c.info.names,.bool c.info.fV,aX c.info.cons.p,aX c.info.cons.x,.str c.info.sk,.str c.info.ak,cM c.info.points,cM c.info.fresh,gk c.info.gn,.str c.sig],.live [.aj,.int .i64 0,.str [],.str [],.bool false,.int .i64 0,.int .i64 0,.int .i64 0,.int .i64 0,.aj]]:=by
    refine hK _ _ ?_
    clear hK hL K
    clear KP
    refine nU fun K hK hL0=>?_
    have main:K ((V.aa::V.aa::(V.ref 0 0)::(V.ref 1 0)::(V.ref 2 0)::V.aa::V.aa::V.aa::V.aa::V.aa::V.aa::V.aa::V.aa::V.aa::V.aa::V.aa::V.aa::V.aa::V.aa::V.aa::V.aa::V.aa::V.aa::V.aa::V.aa::V.aa::V.aa::V.aa::V.aa::V.aa::V.aa::V.aa::V.aa::V.aa::V.aa::V.aa::V.aa::V.aa::V.aa::V.aa::V.aa::V.aa::V.aa::V.aa::V.aa::V.aa::V.aa::V.aa::V.aa::V.aa::V.aa::V.aa::V.aa::V.aa::V.aa::V.aa::V.aa::V.aa::V.aa::V.aa::V.aa::V.aa::V.aa::V.aa::V.aa::V.aa::V.aa::V.aa::V.aa::V.aa::V.aa::V.aa::V.aa::V.aa::V.aa::V.aa::V.aa::V.aa::V.aa::V.aa::V.aa::V.aa::V.aa::V.aa::V.aa::V.aa::V.aa::V.aa::V.aa::V.aa::V.aa::V.aa::V.aa::V.aa::V.aa::V.aa::V.aa::V.aa::V.aa::V.aa::V.aa::V.aa::V.aa::V.aa::V.aa::V.aa::V.aa::V.aa::V.aa::V.aa::V.aa::V.aa::V.aa::V.aa::V.aa::V.aa::V.aa::V.aa::V.aa::V.aa::V.aa::V.aa::V.aa::V.aa::V.aa::V.aa::V.aa::V.aa::V.aa::V.aa::V.aa::V.aa::V.aa::V.aa::V.aa::[])) [.live [aW c.bq,.int .i64 c.key.h,.str c.key.id,.str c.key.root,.bool L,.int .i64 (if B=true then s.len else s.len-1),.int .i64 (lz B s.dh),.int .i64 (lz B s.map),.int .i64 (lz B s.any),cU ns],.live [.str c.raw,.str c.eQ,.int .i64 c.dK,aW c.aT,aW c.bq,.int .i64 c.nb,.int .i64 c.na,.int .i64 c.key.h,.str c.key.id,.str c.key.root,.bool c.info.basic,.bool true,.int .i64 c.info.gz,.int .i64 c.info.bM,bY c.info.cT,bY c.info.bG,ff c.info.maps,.int .i64 c.info.gA,.int .i64 c.info.gB,.int .i64 c.info.gC,aX c.info.names,.bool c.info.fV,aX c.info.cons.p,aX c.info.cons.x,.str c.info.sk,.str c.info.ak,cM c.info.points,cM c.info.fresh,gk c.info.gn,.str c.sig],.live [.aj,.int .i64 0,.str [],.str [],.bool false,.int .i64 0,.int .i64 0,.int .i64 0,.int .i64 0,.aj]]:=by
     refine hK _ _ ?_
     clear hK hL0 K
     generalize(if B=true then s.len else s.len-1)=n1 at*
     generalize lz B s.dh=n2 at*
     generalize lz B s.map=n3 at*
     generalize lz B s.any=n4 at*
     repeat' (first|((first|refine Zu ?_|(refine Zv ?_ ?_;(focus (simp;done))));intro K9 h9;refine Zd ?_;((first|refine Zc (OD _ _) ?_|skip)<;>(refine Zf h9 ?_;clear h9 K9)))|refine Zt ?_|refine Y8 fun K hK=>?_|(apply hK;clear hK K)|((first|refine Zk 0 [0,0,0,0,0,1,0,0,0,0,0,1,0,0,0,0,0,1] ?_|refine Zk 0 [] ?_);refine Zl ?_)|(refine Yb rfl ?_ ?_<;>intro ab<;>(try simp at ab)<;>try exact dc)|refine Zo ?_|refine Zx ?_|clear hK K)
     simp
     exact .pure (by simp)
    cases B
    ·have aO: ¬s.len<1:=fun e=>hB ⟨rfl,e⟩
     repeat' (first|refine Zr ?_|refine Zt ?_|refine Y8 fun K hK=>?_|(apply hK;clear hK K)|(refine Zk 0 [] ?_;refine Zl ?_)|(refine Yb rfl ?_ ?_<;>intro ab<;>(try simp at ab)<;>try exact dc)|refine Zo ?_|refine Zx ?_|clear hK K)
     refine aV (fun i=>(zS 2 (zN 3 (zS 3 (none::zS 81 (zN 2 (some (V.int .i64 i)::zS 42 []))))))) (fun i=> [.live [aW c.bq,.int .i64 c.key.h,.str c.key.id,.str c.key.root,.bool L,.int .i64 (s.len-1),.int .i64 (if 1≤i then vH s.dh else s.dh),.int .i64 (if 2≤i then vH s.map else s.map),.int .i64 (if 3≤i then vH s.any else s.any),cU ns],.live [.str c.raw,.str c.eQ,.int .i64 c.dK,aW c.aT,aW c.bq,.int .i64 c.nb,.int .i64 c.na,.int .i64 c.key.h,.str c.key.id,.str c.key.root,.bool c.info.basic,.bool true,.int .i64 c.info.gz,.int .i64 c.info.bM,bY c.info.cT,bY c.info.bG,ff c.info.maps,.int .i64 c.info.gA,.int .i64 c.info.gB,.int .i64 c.info.gC,aX c.info.names,.bool c.info.fV,aX c.info.cons.p,aX c.info.cons.x,.str c.info.sk,.str c.info.ak,cM c.info.points,cM c.info.fresh,gk c.info.gn,.str c.sig],.live [.aj,.int .i64 0,.str [],.str [],.bool false,.int .i64 0,.int .i64 0,.int .i64 0,.int .i64 0,.aj],.live [.ref 0 6,.ref 0 7,.ref 0 8]]) 3 ?_ fun i hi KL hL=>?_
     ·dsimp only[aE,zN,zS]
      exact Yr [some 0,some 1,some 2,some 3] (by simp[ae,az])
     dsimp only[aE,zN,zS]
     match i,hi with
     |0,_=>
      by_cases hx:0<s.dh
      ·repeat' (first|refine Z3 hx ?_|refine Zt ?_|refine Y8 fun K hK=>?_|(apply hK;clear hK K)|(refine Zk 0 [] ?_;refine Zl ?_)|(refine Yb rfl ?_ ?_<;>intro ab<;>(try simp at ab)<;>try exact dc)|refine Z6 hx ?_|refine Zx ?_|clear hK K)
       refine hL _ _ (by omega) ?_
       exact Yr [some 0,some 1,some 2,some 3] (by simp[ae,az,vH,hx])
      ·repeat' (first|refine Z3 hx ?_|refine Zt ?_|refine Y8 fun K hK=>?_|(apply hK;clear hK K)|(refine Zk 0 [] ?_;refine Zl ?_)|(refine Yb rfl ?_ ?_<;>intro ab<;>(try simp at ab)<;>try exact dc)|refine Z6 hx ?_|refine Zx ?_|clear hK K)
       refine hL _ _ (by omega) ?_
       exact Yr [some 0,some 1,some 2,some 3] (by simp[ae,az,vH,hx])
     |1,_=>
      by_cases hx:0<s.map
      ·repeat' (first|refine Z3 hx ?_|refine Zt ?_|refine Y8 fun K hK=>?_|(apply hK;clear hK K)|(refine Zk 0 [] ?_;refine Zl ?_)|(refine Yb rfl ?_ ?_<;>intro ab<;>(try simp at ab)<;>try exact dc)|refine Z6 hx ?_|refine Zx ?_|clear hK K)
       refine hL _ _ (by omega) ?_
       exact Yr [some 0,some 1,some 2,some 3] (by simp[ae,az,vH,hx])
      ·repeat' (first|refine Z3 hx ?_|refine Zt ?_|refine Y8 fun K hK=>?_|(apply hK;clear hK K)|(refine Zk 0 [] ?_;refine Zl ?_)|(refine Yb rfl ?_ ?_<;>intro ab<;>(try simp at ab)<;>try exact dc)|refine Z6 hx ?_|refine Zx ?_|clear hK K)
       refine hL _ _ (by omega) ?_
       exact Yr [some 0,some 1,some 2,some 3] (by simp[ae,az,vH,hx])
     |2,_=>
      by_cases hx:0<s.any
      ·repeat' (first|refine Z3 hx ?_|refine Zt ?_|refine Y8 fun K hK=>?_|(apply hK;clear hK K)|(refine Zk 0 [] ?_;refine Zl ?_)|(refine Yb rfl ?_ ?_<;>intro ab<;>(try simp at ab)<;>try exact dc)|refine Z6 hx ?_|refine Zx ?_|clear hK K)
       refine hL _ _ (by omega) ?_
       exact Yr [some 0,some 1,some 2,some 3] (by simp[ae,az,vH,hx])
      ·repeat' (first|refine Z3 hx ?_|refine Zt ?_|refine Y8 fun K hK=>?_|(apply hK;clear hK K)|(refine Zk 0 [] ?_;refine Zl ?_)|(refine Yb rfl ?_ ?_<;>intro ab<;>(try simp at ab)<;>try exact dc)|refine Z6 hx ?_|refine Zx ?_|clear hK K)
       refine hL _ _ (by omega) ?_
       exact Yr [some 0,some 1,some 2,some 3] (by simp[ae,az,vH,hx])
     |3,_=>
      repeat' (first|refine Zr ?_|refine Zt ?_|refine Y8 fun K hK=>?_|(apply hK;clear hK K)|(refine Zk 0 [] ?_;refine Zl ?_)|(refine Yb rfl ?_ ?_<;>intro ab<;>(try simp at ab)<;>try exact dc)|refine Zo ?_|refine Zx ?_|clear hK K)
      refine hL0 _ _ _ _ ?_ main
      exact Yr [some 0,some 1,some 2] (by simp[ae,az,lz])
    ·repeat' (first|refine Zr ?_|refine Zt ?_|refine Y8 fun K hK=>?_|(apply hK;clear hK K)|(refine Zk 0 [] ?_;refine Zl ?_)|(refine Yb rfl ?_ ?_<;>intro ab<;>(try simp at ab)<;>try exact dc)|refine Zo ?_|refine Zx ?_|clear hK K)
     refine hL0 _ _ _ _ ?_ main
     exact Yr [some 0,some 1,some 2] (by simp[ae,lz])
   by_cases hC:c.info.fV=true
   ·obtain rfl:s.names++[c.info.cons]=ns:=by rw[←KP,if_pos hC]
    repeat' (first|refine Z4 hC (Zj h4 (Zj h5 h6)) ?_|refine Zt ?_|refine Y8 fun K hK=>?_|(apply hK;clear hK K)|(refine Zk 0 [] ?_;refine Zl ?_)|(refine Yb rfl ?_ ?_<;>intro ab<;>(try simp at ab)<;>try exact dc)|refine Z6 hC ?_|refine Zx ?_|clear hK K)
    refine hL _ _ _ _ ?_ main
    exact Yr [some 0,some 1,some 2] (by simp[ae,hC])
   ·obtain rfl:s.names=ns:=by rw[←KP,if_neg hC]
    repeat' (first|refine Z4 hC (Zj h4 (Zj h5 h6)) ?_|refine Zt ?_|refine Y8 fun K hK=>?_|(apply hK;clear hK K)|(refine Zk 0 [] ?_;refine Zl ?_)|(refine Yb rfl ?_ ?_<;>intro ab<;>(try simp at ab)<;>try exact dc)|refine Z6 hC ?_|refine Zx ?_|clear hK K)
    refine hL _ _ _ _ ?_ main
    exact Yr [some 0,some 1,some 2] (by simp[ae,hC])
  by_cases Ac:c.info.bM=0
  ·obtain rfl:L=true:=by rw[←V2];simp[Ac]
   repeat' (first|((first|refine Zu ?_|(refine Zv ?_ ?_;(focus (simp[Ac];done))));intro K9 h9;simp(disch:=first|exact dd|fail) [Ac];refine Zm ?_;((first|refine⟨_,h3,?_⟩|(refine vm (vs:=[.int .i64 c.key.h,.str c.key.id,.str c.key.root]) rfl ?_ ?_ ?_ ?_ ?_;(focus (simp;done));(focus (simp;done));(focus (simp;done));(focus (intro i v h;rcases i with _|_|_|i<;>simp at h<;>subst h<;>simp)))|refine xE rfl (by simp) (by simp;rfl) ?_|skip)<;>(refine Zf h9 ?_;clear h9 K9)))|refine Zt ?_|refine Y8 fun K hK=>?_|(apply hK;clear hK K)|((first|refine kz (m:=0) [(1,7,.int .i64 c.key.h),(1,8,.str c.key.id),(1,9,.str c.key.root),(1,13,.int .i64 c.info.bM)] (by simp) (by decide+kernel) [0,0,1,0,3,0,0,0,0,0,0,0,3] (by kernel_rfl) (by decide+kernel) ?_|refine Zk 0 [0,0,1,0,3,0,0,0,0,0,0,0,3] ?_|refine Zk 0 [] ?_);refine Zl ?_)|(refine Yb rfl ?_ ?_<;>intro ab<;>(try simp at ab)<;>try exact dc)|refine Z6 Ac ?_|refine Zx ?_|clear hK K)
   refine hL _ _ _ _ ?_ main
   exact Yr [some 0,some 1,some 2] (by simp[ae,Ac])
  ·obtain rfl:L=(bits .and .i64 c.info.bM 64 !=0):=by rw[←V2];simp[Ac]
   repeat' (first|((first|refine Zu ?_|(refine Zv ?_ ?_;(focus (simp[Ac];done))));intro K9 h9;simp(disch:=first|exact dd|fail) [Ac];refine Zm ?_;((first|refine⟨_,h3,?_⟩|(refine vm (vs:=[.int .i64 c.key.h,.str c.key.id,.str c.key.root]) rfl ?_ ?_ ?_ ?_ ?_;(focus (simp;done));(focus (simp;done));(focus (simp;done));(focus (intro i v h;rcases i with _|_|_|i<;>simp at h<;>subst h<;>simp)))|refine xE rfl (by simp) (by simp;rfl) ?_|skip)<;>(refine Zf h9 ?_;clear h9 K9)))|refine Zt ?_|refine Y8 fun K hK=>?_|(apply hK;clear hK K)|((first|refine kz (m:=0) [(1,7,.int .i64 c.key.h),(1,8,.str c.key.id),(1,9,.str c.key.root),(1,13,.int .i64 c.info.bM)] (by simp) (by decide+kernel) [0,0,1,0,3,0,0,0,0,0,0,0,3] (by kernel_rfl) (by decide+kernel) ?_|refine Zk 0 [0,0,1,0,3,0,0,0,0,0,0,0,3] ?_|refine Zk 0 [] ?_);refine Zl ?_)|(refine Yb rfl ?_ ?_<;>intro ab<;>(try simp at ab)<;>try exact dc)|refine Z6 Ac ?_|refine Zx ?_|clear hK K)
   refine hL _ _ _ _ ?_ main
   exact Yr [some 0,some 1,some 2] (by simp[ae])
 cases B
 ·have aO: ¬s.len<1:=fun e=>hB ⟨rfl,e⟩
  by_cases kY:c.info.bM=0
  ·repeat' (first|refine bS (Zj aO kY) h2 ?_|refine ay ?_|refine Y8 fun K hK=>?_|(apply hK;clear hK K)|(refine Zk 0 [] ?_;refine Zl ?_)|(refine Yb rfl ?_ ?_<;>intro ab<;>(try simp at ab)<;>try exact dc)|refine aK (Zj aO kY) ?_|refine Zx ?_|clear hK K)
   refine hL _ _ _ _ ?_ main
   exact Yr [some 0,some 1,some 2] (by simp[ae,kY])
  ·have u3: ¬bits .and .i64 c.info.bM 32=0:=fun e=>hu ⟨kY,e⟩
   repeat' (first|refine bS (Zj aO (Zj kY u3)) h2 ?_|refine ay ?_|refine Y8 fun K hK=>?_|(apply hK;clear hK K)|(refine Zk 0 [] ?_;refine Zl ?_)|(refine Yb rfl ?_ ?_<;>intro ab<;>(try simp at ab)<;>try exact dc)|refine aK (Zj aO (Zj kY u3)) ?_|refine Zx ?_|clear hK K)
   refine hL _ _ _ _ ?_ main
   exact Yr [some 0,some 1,some 2] (by simp[ae])
 ·by_cases kY:c.info.bM=0
  ·repeat' (first|refine bS kY h2 ?_|refine ay ?_|refine Y8 fun K hK=>?_|(apply hK;clear hK K)|(refine Zk 0 [] ?_;refine Zl ?_)|(refine Yb rfl ?_ ?_<;>intro ab<;>(try simp at ab)<;>try exact dc)|refine aK kY ?_|refine Zx ?_|clear hK K)
   refine hL _ _ _ _ ?_ main
   exact Yr [some 0,some 1,some 2] (by simp[ae,kY])
  ·have u3: ¬bits .and .i64 c.info.bM 32=0:=fun e=>hu ⟨kY,e⟩
   repeat' (first|refine bS (Zj kY u3) h2 ?_|refine ay ?_|refine Y8 fun K hK=>?_|(apply hK;clear hK K)|(refine Zk 0 [] ?_;refine Zl ?_)|(refine Yb rfl ?_ ?_<;>intro ab<;>(try simp at ab)<;>try exact dc)|refine aK (Zj kY u3) ?_|refine Zx ?_|clear hK K)
   refine hL _ _ _ _ ?_ main
   exact Yr [some 0,some 1,some 2] (by simp[ae])
 ·simp
theorem yh(s:Pg)(c:Ce)(w:V1 s c):ao prog 36 [.agg s.c,.agg c.c] (.aB [.agg (mc s c).c,.int .i64 (jb s c)]):=by
 by_cases h:jb s c=0
 ·have:=PH s c w h
  rw[h,show mc s c=EN s c by simp[mc,h]]
  exact this
 ·have:=Mv s c w h
  rw[show mc s c=K8 by simp[mc,h]]
  exact this
end Go.Proofs.YtjlnoogcggdhkaaGreatDoor
namespace Go.Proofs.YtjlnoogcggdhkaaGreatDoor
open Go.Proofs.Tryz
open Go.VS Go.Stp
set_option linter.all false
attribute [local irreducible] bj au bE aS bz bits
def q0:Qu:=⟨0,[],0,[],false,false,false,[],0,false,[]⟩
def cA:Ce:=⟨[],[],0,dj 0,dj 1,0,0,⟨0,[],[]⟩,{ab7 with ca:=true},[]⟩
def cB:Ce:={cA with bq:=dj 8}
def sA:Pg:=Jv (ZG 0) q0
def sB:Pg:={sA with len:=0}
theorem ql(k:Nat):WN (dj k):=by
 unfold WN dj OB
 by_cases h:k%2=1<;>by_cases h8:8≤k%16<;>simp[h,h8]
theorem SF:jb sA cA=0:=by decide+kernel
theorem SG:jb sB cA=10:=by decide+kernel
theorem SH:jb sB cB=0:=by decide+kernel
theorem PI(s:Pg)(c:Ce)(h1:s=sA∨s=sB)(h2:c=cA∨c=cB):V1 s c:=by
 rcases h1 with rfl|rfl<;>rcases h2 with rfl|rfl<;>
  exact⟨ql _,ql _,by decide,⟨by decide,fun x h=>by cases h⟩,by decide,⟨⟨by decide,fun x h=>by cases h⟩,⟨by decide,fun x h=>by cases h⟩⟩,by unfold B8;decide,by unfold B8;decide,by unfold B8;decide,by unfold B8;decide⟩
theorem OY:ao prog 11 [] (.bool true):=by
 have a0:ao prog 34 [.int .i64 0] (.agg [aW (dj 0)]):=uI 0 (by omega)
 have a1:ao prog 34 [.int .i64 1] (.agg [aW (dj 1)]):=uI 1 (by omega)
 have a8:ao prog 34 [.int .i64 8] (.agg [aW (dj 8)]):=uI 8 (by omega)
 have an:ao prog 12 [.int .i64 0] (.agg [aW (dj (gu 0)),.int .i64 (dE 0).h,.str (dE 0).id,.str (dE 0).root]):=LW 0 (by omega)
 have hb:ao prog 35 [.agg [aW (dj (gu 0)),.int .i64 (dE 0).h,.str (dE 0).id,.str (dE 0).root],.agg [.int .i64 0,.str [],.int .i64 0,.aj,.bool false,.bool false,.bool false,.aj,.int .i64 0,.bool false,.aj]] (.agg [aW (dj (gu 0)),.int .i64 (dE 0).h,.str (dE 0).id,.str (dE 0).root,.bool true,.int .i64 8,.int .i64 9,.int .i64 9,.int .i64 9,.sl 0 []]):=kv (OG (ZG 0) q0 (ql _)) rfl
 have h1:ao prog 36 [.agg [aW (dj (gu 0)),.int .i64 (dE 0).h,.str (dE 0).id,.str (dE 0).root,.bool true,.int .i64 8,.int .i64 9,.int .i64 9,.int .i64 9,.sl 0 []],.agg [.str [],.str [],.int .i64 0,aW (dj 0),aW (dj 1),.int .i64 0,.int .i64 0,.int .i64 0,.str [],.str [],.bool false,.bool true,.int .i64 (-1),.int .i64 0,.aj,.aj,.aj,.int .i64 (-1),.int .i64 (-1),.int .i64 (-1),.aj,.bool false,.aj,.aj,.str [],.str [],.aj,.aj,.aj,.str []]] (.aB [.agg (mc sA cA).c,.int .i64 (jb sA cA)]):=kv (yh sA cA (PI _ _ (.inl rfl) (.inl rfl))) rfl
 have h2:ao prog 36 [.agg [aW (dj (gu 0)),.int .i64 (dE 0).h,.str (dE 0).id,.str (dE 0).root,.bool true,.int .i64 0,.int .i64 9,.int .i64 9,.int .i64 9,.sl 0 []],.agg [.str [],.str [],.int .i64 0,aW (dj 0),aW (dj 1),.int .i64 0,.int .i64 0,.int .i64 0,.str [],.str [],.bool false,.bool true,.int .i64 (-1),.int .i64 0,.aj,.aj,.aj,.int .i64 (-1),.int .i64 (-1),.int .i64 (-1),.aj,.bool false,.aj,.aj,.str [],.str [],.aj,.aj,.aj,.str []]] (.aB [.agg (mc sB cA).c,.int .i64 (jb sB cA)]):=kv (yh sB cA (PI _ _ (.inr rfl) (.inl rfl))) rfl
 have h3:ao prog 36 [.agg [aW (dj (gu 0)),.int .i64 (dE 0).h,.str (dE 0).id,.str (dE 0).root,.bool true,.int .i64 0,.int .i64 9,.int .i64 9,.int .i64 9,.sl 0 []],.agg [.str [],.str [],.int .i64 0,aW (dj 0),aW (dj 8),.int .i64 0,.int .i64 0,.int .i64 0,.str [],.str [],.bool false,.bool true,.int .i64 (-1),.int .i64 0,.aj,.aj,.aj,.int .i64 (-1),.int .i64 (-1),.int .i64 (-1),.aj,.bool false,.aj,.aj,.str [],.str [],.aj,.aj,.aj,.str []]] (.aB [.agg (mc sB cB).c,.int .i64 (jb sB cB)]):=kv (yh sB cB (PI _ _ (.inr rfl) (.inr rfl))) rfl
 have hs:ao prog 37 [.agg [aW (dj (gu 0)),.int .i64 (dE 0).h,.str (dE 0).id,.str (dE 0).root,.bool true,.int .i64 0,.int .i64 9,.int .i64 9,.int .i64 9,.sl 0 []],.agg [.str [],.str [],.int .i64 0,aW (dj 0),aW (dj 8),.int .i64 0,.int .i64 0,.int .i64 0,.str [],.str [],.bool false,.bool true,.int .i64 (-1),.int .i64 0,.aj,.aj,.aj,.int .i64 (-1),.int .i64 (-1),.int .i64 (-1),.aj,.bool false,.aj,.aj,.str [],.str [],.aj,.aj,.aj,.str []],.bool true] (.bool (xA sB cB true)):=kv (Jx sB cB true (ql _) (ql _)) rfl
 have hg:ao prog 38 [.agg [aW (dj (gu 0)),.int .i64 (dE 0).h,.str (dE 0).id,.str (dE 0).root,.bool true,.int .i64 0,.int .i64 9,.int .i64 9,.int .i64 9,.sl 0 []],.agg [.int .i64 0,.str [],.int .i64 0,.aj,.bool false,.bool false,.bool false,.aj,.int .i64 0,.bool false,.aj]] (.sl 1 [aW (dj (gu 0)),.int .i64 (dE 0).h,.str (dE 0).id,.str (dE 0).root]):=kv (Jy sB q0 (ql _) ⟨by decide,fun x h=>by cases h⟩) rfl
 rw[SF]at h1
 rw[SG]at h2
 rw[SH]at h3
 rw[show xA sB cB true=true by decide+kernel]at hs
 generalize mc sA cA=P1 at*
 generalize mc sB cA=P2 at*
 generalize mc sB cB=P3 at*
 rw[Pg.c.eq_1]at h1 h2 h3
 generalize dj (gu 0)=An at*
 generalize dj 0=A0 at*
 generalize dj 1=A1 at*
 generalize dj 8=A8 at*
 generalize dE 0=KY at*
 refine ah func11 rfl call11 ?_ ?_
 rotate_left 1
 refine af (s':=zJ 63) rfl ?_;dsimp only[zJ]
 repeat' (first|((first|refine Zu ?_|(refine Zv ?_ ?_;(focus (simp;done))));intro K9 h9;refine Zd ?_;((first|refine Ap a0 ?_|refine Ap a1 ?_|refine Ap a8 ?_|refine Ap an ?_|refine Ap hb ?_|refine Ap h1 ?_|refine Ap h2 ?_|refine Ap h3 ?_|refine Ap hs ?_|refine Ap hg ?_|skip)<;>(refine Zf h9 ?_;clear h9 K9)))|refine Zt ?_|refine Zo ?_|fail)
 ·simp
  exact .pure .bool
 ·exact .bool
end Go.Proofs.YtjlnoogcggdhkaaGreatDoor
