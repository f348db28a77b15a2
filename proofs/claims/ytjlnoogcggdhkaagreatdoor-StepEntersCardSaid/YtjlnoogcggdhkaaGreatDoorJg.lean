/-
 WEAK: reading elements: Read, One, List of the reference at whatever strings.
 Conditions: none.
-/
import Derived.Test.YtjlnoogcggdhkaaGreatDoorIa
import Derived.Test.YtjlnoogcggdhkaaGreatDoorGj
set_option maxRecDepth 100000
set_option maxHeartbeats 32000000
set_option linter.all false
namespace Go.Wk
open Go.VS
abbrev Bs:=List UInt8
def YO(b:Bs)(v:V):Prop:= ∃(t:Int) (c r rest:Bs) (er:Int),v=.aB [.agg [.int .i64 t,.str c,.str r],.str rest,.int .i64 er]∧(0≤t∧t<256)∧c.length≤r.length∧r.length+rest.length≤b.length∧(er=0→0<r.length)∧c.length≤131072
theorem YP{b:Bs}(er:Int)(h:er≠0):YO b (.aB [.agg [.int .i64 0,.str [],.str []],.str [],.int .i64 er]):=⟨0,[],[],[],er,rfl,by omega,by simp,by simp,fun h'=>absurd h' h,by simp⟩
end Go.Wk
namespace Go.Proofs.YtjlnoogcggdhkaaGreatDoor
open Go.Proofs.Tryz
open Go.VS Go.Wk
attribute [local irreducible] bj au bE aS bz
theorem rE(b:Bs)(hb:b.length≤1099511627776):EP prog 183 [.str b] (YO b):=by
 obtain⟨Q,hQ⟩: ∃Q,YO b=Q:=⟨_,rfl⟩
 have qe: ∀er:Int,er≠0→Q (.aB [.agg [.int .i64 0,.str [],.str []],.str [],.int .i64 er]):=fun er h=>hQ▸YP er h
 have qk: ∀(t:Nat) (c r rest:Bs),t<256→c.length≤r.length→r.length+rest.length≤b.length→0<r.length→c.length≤131072→Q (.aB [.agg [.int .i64 t,.str c,.str r],.str rest,.int .i64 0]):=fun t c r rest h1 h2 h3 h4 h5=>hQ▸⟨t,c,r,rest,0,rfl,by omega,h2,h3,fun _=>h4,h5⟩
 rw[hQ]
 clear hQ
 rcases b with _|⟨t,_|⟨k,b⟩⟩
 ·refine cR func183 rfl call183 ?_
  refine af (s':=(.str []:V)::zJ 98) rfl ?_;dsimp only[zJ]
  repeat' (first|refine Zr ?_|refine Zt ?_|(refine Zk 1 [] ?_;refine Zl ?_)|(refine Yb rfl ?_ ?_<;>intro ab<;>(try simp at ab)<;>try exact dc)|refine Zo ?_|fail)
  all_goals(simp;exact⟨_,qe _ (by decide),by simp,.pure (by simp)⟩)
 ·have ht:=t.toNat_lt
  refine cR func183 rfl call183 ?_
  refine af (s':=(.str [t]:V)::zJ 98) rfl ?_;dsimp only[zJ]
  repeat' (first|refine Zr ?_|refine Zt ?_|(refine Zk 1 [] ?_;refine Zl ?_)|(refine Yb rfl ?_ ?_<;>intro ab<;>(try simp at ab)<;>try exact dc)|refine Zo ?_|fail)
  all_goals(simp;exact⟨_,qe _ (by decide),by simp,.pure (by simp)⟩)
 ·have ht:=t.toNat_lt
  have hk:=k.toNat_lt
  by_cases iC:(t.toNat:Int)%32=31
  ·refine cR func183 rfl call183 ?_
   refine af (s':=(.str (t::k::b):V)::zJ 98) rfl ?_;dsimp only[zJ]
   repeat' (first|refine Z3 iC ?_|refine Zt ?_|(refine Zk 1 [] ?_;refine Zl ?_)|(refine Yb rfl ?_ ?_<;>intro ab<;>(try simp at ab)<;>try exact dc)|refine Z6 iC ?_|fail)
   all_goals(simp;exact⟨_,qe _ (by decide),by simp,.pure (by simp)⟩)
  have QC:(t::k::b).length=b.length+2:=by simp
  rw[QC]at hb qk
  have g1: ¬(b.length:Int)+1+1=0:=by omega
  have g2: ¬(b.length:Int)+1+1=1:=by omega
  rcases(by omega:k.toNat<128∨k.toNat=128∨131<k.toNat∨k.toNat=129∨k.toNat=130∨k.toNat=131)with h|h|h|h|h|h
  ·have k1: ¬(k.toNat:Int)=128:=by omega
   have k2: ¬131<(k.toNat:Int):=by omega
   have k3: ¬128<(k.toNat:Int):=by omega
   refine cR func183 rfl call183 ?_
   refine af (s':=(.str (t::k::b):V)::zJ 98) rfl ?_;dsimp only[zJ]
   repeat' (first|refine Z3 (Zj iC (Zj g1 (Zj g2 (Zj k1 (Zj k2 k3))))) ?_|refine Zt ?_|((first|refine Zk 1 [0,0,0,0,0,0,0,0,0,0,0,0,0,0,0,0,0,0,0,1,0,0,0] ?_|refine Zk 1 [] ?_);refine Zl ?_)|(refine Yb rfl ?_ ?_<;>intro ab<;>(try simp at ab)<;>try exact dc)|refine Z6 (Zj iC (Zj g1 (Zj g2 (Zj k1 (Zj k2 k3))))) ?_|fail)
   all_goals(try simp)
   all_goals first
    |exact⟨_,qe _ (by decide),by simp,.pure (by simp)⟩
    |exact⟨_,qk t.toNat _ _ _ (by omega) (by simp only[apT,apU,apS,apV];omega) (by simp only[apT,apU,apS,apV];omega) (by simp only[apT,apU,apS,apV];omega) (by simp only[apT,apU,apS,apV];omega),by simp,.pure (by simp)⟩
    |fail
  ·have k1:(k.toNat:Int)=128:=by omega
   refine cR func183 rfl call183 ?_
   refine af (s':=(.str (t::k::b):V)::zJ 98) rfl ?_;dsimp only[zJ]
   repeat' (first|refine Z3 (Zj iC (Zj g1 (Zj g2 k1))) ?_|refine Zt ?_|((first|refine Zk 1 [0,0,0,0,0,0,0,0,0,0,0,0,0,0,0,0,0,0,0,1,0,0,0] ?_|refine Zk 1 [] ?_);refine Zl ?_)|(refine Yb rfl ?_ ?_<;>intro ab<;>(try simp at ab)<;>try exact dc)|refine Z6 (Zj iC (Zj g1 (Zj g2 k1))) ?_|fail)
   all_goals(try simp)
   all_goals first
    |exact⟨_,qe _ (by decide),by simp,.pure (by simp)⟩
    |exact⟨_,qk t.toNat _ _ _ (by omega) (by simp only[apT,apU,apS,apV];omega) (by simp only[apT,apU,apS,apV];omega) (by simp only[apT,apU,apS,apV];omega) (by simp only[apT,apU,apS,apV];omega),by simp,.pure (by simp)⟩
    |fail
  ·have k1: ¬(k.toNat:Int)=128:=by omega
   have k2:131<(k.toNat:Int):=by omega
   refine cR func183 rfl call183 ?_
   refine af (s':=(.str (t::k::b):V)::zJ 98) rfl ?_;dsimp only[zJ]
   repeat' (first|refine Z3 (Zj iC (Zj g1 (Zj g2 (Zj k1 k2)))) ?_|refine Zt ?_|((first|refine Zk 1 [0,0,0,0,0,0,0,0,0,0,0,0,0,0,0,0,0,0,0,1,0,0,0] ?_|refine Zk 1 [] ?_);refine Zl ?_)|(refine Yb rfl ?_ ?_<;>intro ab<;>(try simp at ab)<;>try exact dc)|refine Z6 (Zj iC (Zj g1 (Zj g2 (Zj k1 k2)))) ?_|fail)
   all_goals(try simp)
   all_goals first
    |exact⟨_,qe _ (by decide),by simp,.pure (by simp)⟩
    |exact⟨_,qk t.toNat _ _ _ (by omega) (by simp only[apT,apU,apS,apV];omega) (by simp only[apT,apU,apS,apV];omega) (by simp only[apT,apU,apS,apV];omega) (by simp only[apT,apU,apS,apV];omega),by simp,.pure (by simp)⟩
    |fail
  ·have k1:(k.toNat:Int)=129:=by omega
   rcases apQ b.length 1 with hs|hs
   ·have k2:(b.length:Int)+1+1<3:=by omega
    refine cR func183 rfl call183 ?_
    refine af (s':=(.str (t::k::b):V)::zJ 98) rfl ?_;dsimp only[zJ]
    repeat' (first|refine Z3 (Zj iC (Zj g1 (Zj g2 (Zj k1 k2)))) ?_|refine Zt ?_|(refine cC 5 fun KL hL=>?_)|refine Y8 fun K hK=>?_|(apply hK;clear hK K)|((first|refine Zk 1 [0,0,0,0,0,0,0,0,0,0,0,0,0,0,0,0,0,0,0,1,0,0,0] ?_|refine Zk 1 [] ?_);refine Zl ?_)|(refine Yb rfl ?_ ?_<;>intro ab<;>(try simp at ab)<;>try exact dc)|refine Z6 (Zj iC (Zj g1 (Zj g2 (Zj k1 k2)))) ?_|refine Zx ?_|clear hK K|(refine hL _ _ _ ?_)|(clear hK K)|(clear hL KL))
    all_goals(try simp)
    all_goals first
     |exact⟨_,qe _ (by decide),by simp,.pure (by simp)⟩
     |exact⟨_,qk t.toNat _ _ _ (by omega) (by simp only[apT,apU,apS,apV];omega) (by simp only[apT,apU,apS,apV];omega) (by simp only[apT,apU,apS,apV];omega) (by simp only[apT,apU,apS,apV];omega),by simp,.pure (by simp)⟩
     |fail
   ·have k2: ¬(b.length:Int)+1+1<3:=by omega
    obtain⟨y0,lN⟩: ∃y,b[0]=y:=⟨_,rfl⟩
    have v0:=y0.toNat_lt
    rcases(by omega:(y0.toNat:Int)<128∨131072<(y0.toNat:Int)∨(128≤(y0.toNat:Int)∧(y0.toNat:Int)≤131072))with h3|h3|h3
    ·refine cR func183 rfl call183 ?_
     refine af (s':=(.str (t::k::b):V)::zJ 98) rfl ?_;dsimp only[zJ]
     repeat' (first|refine Z3 (Zj iC (Zj g1 (Zj g2 (Zj k1 (Zj k2 (Zj lN h3)))))) ?_|refine Zt ?_|(refine cC 5 fun KL hL=>?_)|refine Y8 fun K hK=>?_|(apply hK;clear hK K)|((first|refine Zk 1 [0,0,0,0,0,0,0,0,0,0,0,0,0,0,0,0,0,0,0,1,0,0,0] ?_|refine Zk 1 [] ?_);refine Zl ?_)|(refine Yb rfl ?_ ?_<;>intro ab<;>(try simp at ab)<;>try exact dc)|refine Z6 (Zj iC (Zj g1 (Zj g2 (Zj k1 (Zj k2 (Zj lN h3)))))) ?_|refine Zx ?_|clear hK K|(refine hL _ _ _ ?_)|(clear hK K)|(clear hL KL))
     all_goals(try simp)
     all_goals first
      |exact⟨_,qe _ (by decide),by simp,.pure (by simp)⟩
      |exact⟨_,qk t.toNat _ _ _ (by omega) (by simp only[apT,apU,apS,apV];omega) (by simp only[apT,apU,apS,apV];omega) (by simp only[apT,apU,apS,apV];omega) (by simp only[apT,apU,apS,apV];omega),by simp,.pure (by simp)⟩
      |fail
    ·refine cR func183 rfl call183 ?_
     refine af (s':=(.str (t::k::b):V)::zJ 98) rfl ?_;dsimp only[zJ]
     repeat' (first|refine Z3 (Zj iC (Zj g1 (Zj g2 (Zj k1 (Zj k2 (Zj lN h3)))))) ?_|refine Zt ?_|(refine cC 5 fun KL hL=>?_)|refine Y8 fun K hK=>?_|(apply hK;clear hK K)|((first|refine Zk 1 [0,0,0,0,0,0,0,0,0,0,0,0,0,0,0,0,0,0,0,1,0,0,0] ?_|refine Zk 1 [] ?_);refine Zl ?_)|(refine Yb rfl ?_ ?_<;>intro ab<;>(try simp at ab)<;>try exact dc)|refine Z6 (Zj iC (Zj g1 (Zj g2 (Zj k1 (Zj k2 (Zj lN h3)))))) ?_|refine Zx ?_|clear hK K|(refine hL _ _ _ ?_)|(clear hK K)|(clear hL KL))
     all_goals(try simp)
     all_goals first
      |exact⟨_,qe _ (by decide),by simp,.pure (by simp)⟩
      |exact⟨_,qk t.toNat _ _ _ (by omega) (by simp only[apT,apU,apS,apV];omega) (by simp only[apT,apU,apS,apV];omega) (by simp only[apT,apU,apS,apV];omega) (by simp only[apT,apU,apS,apV];omega),by simp,.pure (by simp)⟩
      |fail
    ·obtain⟨h3,h4⟩:=h3
     have h5: ¬(y0.toNat:Int)<128:=by omega
     have h6: ¬131072<(y0.toNat:Int):=by omega
     refine cR func183 rfl call183 ?_
     refine af (s':=(.str (t::k::b):V)::zJ 98) rfl ?_;dsimp only[zJ]
     repeat' (first|refine Z3 (Zj iC (Zj g1 (Zj g2 (Zj k1 (Zj k2 (Zj lN (Zj h5 h6))))))) ?_|refine Zt ?_|(refine cC 5 fun KL hL=>?_)|refine Y8 fun K hK=>?_|(apply hK;clear hK K)|((first|refine Zk 1 [0,0,0,0,0,0,0,0,0,0,0,0,0,0,0,0,0,0,0,1,0,0,0] ?_|refine Zk 1 [] ?_);refine Zl ?_)|(refine Yb rfl ?_ ?_<;>intro ab<;>(try simp at ab)<;>try exact dc)|refine Z6 (Zj iC (Zj g1 (Zj g2 (Zj k1 (Zj k2 (Zj lN (Zj h5 h6))))))) ?_|refine Zx ?_|clear hK K|(refine hL _ _ _ ?_)|(clear hK K)|(clear hL KL))
     all_goals(try simp)
     all_goals first
      |exact⟨_,qe _ (by decide),by simp,.pure (by simp)⟩
      |exact⟨_,qk t.toNat _ _ _ (by omega) (by simp only[apT,apU,apS,apV];omega) (by simp only[apT,apU,apS,apV];omega) (by simp only[apT,apU,apS,apV];omega) (by simp only[apT,apU,apS,apV];omega),by simp,.pure (by simp)⟩
      |fail
  ·have k1:(k.toNat:Int)=130:=by omega
   rcases apQ b.length 2 with hs|hs
   ·have k2:(b.length:Int)+1+1<4:=by omega
    refine cR func183 rfl call183 ?_
    refine af (s':=(.str (t::k::b):V)::zJ 98) rfl ?_;dsimp only[zJ]
    repeat' (first|refine Z3 (Zj iC (Zj g1 (Zj g2 (Zj k1 k2)))) ?_|refine Zt ?_|(refine cC 5 fun KL hL=>?_)|refine Y8 fun K hK=>?_|(apply hK;clear hK K)|((first|refine Zk 1 [0,0,0,0,0,0,0,0,0,0,0,0,0,0,0,0,0,0,0,1,0,0,0] ?_|refine Zk 1 [] ?_);refine Zl ?_)|(refine Yb rfl ?_ ?_<;>intro ab<;>(try simp at ab)<;>try exact dc)|refine Z6 (Zj iC (Zj g1 (Zj g2 (Zj k1 k2)))) ?_|refine Zx ?_|clear hK K|(refine hL _ _ _ ?_)|(clear hK K)|(clear hL KL))
    all_goals(try simp)
    all_goals first
     |exact⟨_,qe _ (by decide),by simp,.pure (by simp)⟩
     |exact⟨_,qk t.toNat _ _ _ (by omega) (by simp only[apT,apU,apS,apV];omega) (by simp only[apT,apU,apS,apV];omega) (by simp only[apT,apU,apS,apV];omega) (by simp only[apT,apU,apS,apV];omega),by simp,.pure (by simp)⟩
     |fail
   ·have k2: ¬(b.length:Int)+1+1<4:=by omega
    obtain⟨y0,lN⟩: ∃y,b[0]=y:=⟨_,rfl⟩
    have v0:=y0.toNat_lt
    obtain⟨y1,qB⟩: ∃y,b[1]=y:=⟨_,rfl⟩
    have v1:=y1.toNat_lt
    rcases(by omega:256*(y0.toNat:Int)+(y1.toNat:Int)<256∨131072<256*(y0.toNat:Int)+(y1.toNat:Int)∨(256≤256*(y0.toNat:Int)+(y1.toNat:Int)∧256*(y0.toNat:Int)+(y1.toNat:Int)≤131072))with h3|h3|h3
    ·refine cR func183 rfl call183 ?_
     refine af (s':=(.str (t::k::b):V)::zJ 98) rfl ?_;dsimp only[zJ]
     repeat' (first|refine Z3 (Zj iC (Zj g1 (Zj g2 (Zj k1 (Zj k2 (Zj lN (Zj qB h3))))))) ?_|refine Zt ?_|(refine cC 5 fun KL hL=>?_)|refine Y8 fun K hK=>?_|(apply hK;clear hK K)|((first|refine Zk 1 [0,0,0,0,0,0,0,0,0,0,0,0,0,0,0,0,0,0,0,1,0,0,0] ?_|refine Zk 1 [] ?_);refine Zl ?_)|(refine Yb rfl ?_ ?_<;>intro ab<;>(try simp at ab)<;>try exact dc)|refine Z6 (Zj iC (Zj g1 (Zj g2 (Zj k1 (Zj k2 (Zj lN (Zj qB h3))))))) ?_|refine Zx ?_|clear hK K|(refine hL _ _ _ ?_)|(clear hK K)|(clear hL KL))
     all_goals(try simp)
     all_goals first
      |exact⟨_,qe _ (by decide),by simp,.pure (by simp)⟩
      |exact⟨_,qk t.toNat _ _ _ (by omega) (by simp only[apT,apU,apS,apV];omega) (by simp only[apT,apU,apS,apV];omega) (by simp only[apT,apU,apS,apV];omega) (by simp only[apT,apU,apS,apV];omega),by simp,.pure (by simp)⟩
      |fail
    ·refine cR func183 rfl call183 ?_
     refine af (s':=(.str (t::k::b):V)::zJ 98) rfl ?_;dsimp only[zJ]
     repeat' (first|refine Z3 (Zj iC (Zj g1 (Zj g2 (Zj k1 (Zj k2 (Zj lN (Zj qB h3))))))) ?_|refine Zt ?_|(refine cC 5 fun KL hL=>?_)|refine Y8 fun K hK=>?_|(apply hK;clear hK K)|((first|refine Zk 1 [0,0,0,0,0,0,0,0,0,0,0,0,0,0,0,0,0,0,0,1,0,0,0] ?_|refine Zk 1 [] ?_);refine Zl ?_)|(refine Yb rfl ?_ ?_<;>intro ab<;>(try simp at ab)<;>try exact dc)|refine Z6 (Zj iC (Zj g1 (Zj g2 (Zj k1 (Zj k2 (Zj lN (Zj qB h3))))))) ?_|refine Zx ?_|clear hK K|(refine hL _ _ _ ?_)|(clear hK K)|(clear hL KL))
     all_goals(try simp)
     all_goals first
      |exact⟨_,qe _ (by decide),by simp,.pure (by simp)⟩
      |exact⟨_,qk t.toNat _ _ _ (by omega) (by simp only[apT,apU,apS,apV];omega) (by simp only[apT,apU,apS,apV];omega) (by simp only[apT,apU,apS,apV];omega) (by simp only[apT,apU,apS,apV];omega),by simp,.pure (by simp)⟩
      |fail
    ·obtain⟨h3,h4⟩:=h3
     have h5: ¬256*(y0.toNat:Int)+(y1.toNat:Int)<256:=by omega
     have h6: ¬131072<256*(y0.toNat:Int)+(y1.toNat:Int):=by omega
     refine cR func183 rfl call183 ?_
     refine af (s':=(.str (t::k::b):V)::zJ 98) rfl ?_;dsimp only[zJ]
     repeat' (first|refine Z3 (Zj iC (Zj g1 (Zj g2 (Zj k1 (Zj k2 (Zj lN (Zj qB (Zj h5 h6)))))))) ?_|refine Zt ?_|(refine cC 5 fun KL hL=>?_)|refine Y8 fun K hK=>?_|(apply hK;clear hK K)|((first|refine Zk 1 [0,0,0,0,0,0,0,0,0,0,0,0,0,0,0,0,0,0,0,1,0,0,0] ?_|refine Zk 1 [] ?_);refine Zl ?_)|(refine Yb rfl ?_ ?_<;>intro ab<;>(try simp at ab)<;>try exact dc)|refine Z6 (Zj iC (Zj g1 (Zj g2 (Zj k1 (Zj k2 (Zj lN (Zj qB (Zj h5 h6)))))))) ?_|refine Zx ?_|clear hK K|(refine hL _ _ _ ?_)|(clear hK K)|(clear hL KL))
     all_goals(try simp)
     all_goals first
      |exact⟨_,qe _ (by decide),by simp,.pure (by simp)⟩
      |exact⟨_,qk t.toNat _ _ _ (by omega) (by simp only[apT,apU,apS,apV];omega) (by simp only[apT,apU,apS,apV];omega) (by simp only[apT,apU,apS,apV];omega) (by simp only[apT,apU,apS,apV];omega),by simp,.pure (by simp)⟩
      |fail
  ·have k1:(k.toNat:Int)=131:=by omega
   rcases apQ b.length 3 with hs|hs
   ·have k2:(b.length:Int)+1+1<5:=by omega
    refine cR func183 rfl call183 ?_
    refine af (s':=(.str (t::k::b):V)::zJ 98) rfl ?_;dsimp only[zJ]
    repeat' (first|refine Z3 (Zj iC (Zj g1 (Zj g2 (Zj k1 k2)))) ?_|refine Zt ?_|(refine cC 5 fun KL hL=>?_)|refine Y8 fun K hK=>?_|(apply hK;clear hK K)|((first|refine Zk 1 [0,0,0,0,0,0,0,0,0,0,0,0,0,0,0,0,0,0,0,1,0,0,0] ?_|refine Zk 1 [] ?_);refine Zl ?_)|(refine Yb rfl ?_ ?_<;>intro ab<;>(try simp at ab)<;>try exact dc)|refine Z6 (Zj iC (Zj g1 (Zj g2 (Zj k1 k2)))) ?_|refine Zx ?_|clear hK K|(refine hL _ _ _ ?_)|(clear hK K)|(clear hL KL))
    all_goals(try simp)
    all_goals first
     |exact⟨_,qe _ (by decide),by simp,.pure (by simp)⟩
     |exact⟨_,qk t.toNat _ _ _ (by omega) (by simp only[apT,apU,apS,apV];omega) (by simp only[apT,apU,apS,apV];omega) (by simp only[apT,apU,apS,apV];omega) (by simp only[apT,apU,apS,apV];omega),by simp,.pure (by simp)⟩
     |fail
   ·have k2: ¬(b.length:Int)+1+1<5:=by omega
    obtain⟨y0,lN⟩: ∃y,b[0]=y:=⟨_,rfl⟩
    have v0:=y0.toNat_lt
    obtain⟨y1,qB⟩: ∃y,b[1]=y:=⟨_,rfl⟩
    have v1:=y1.toNat_lt
    obtain⟨y2,BB⟩: ∃y,b[2]=y:=⟨_,rfl⟩
    have v2:=y2.toNat_lt
    obtain⟨m,hm⟩: ∃m:Int,256*(256*(y0.toNat:Int)+(y1.toNat:Int))+(y2.toNat:Int)=m:=⟨_,rfl⟩
    have hm0:0≤m:=by omega
    rcases(by omega:m<65536∨131072<m∨(65536≤m∧m≤131072))with h3|h3|h3
    ·have h5:(m<65536)=True:=eq_true h3
     clear h3
     refine cR func183 rfl call183 ?_
     refine af (s':=(.str (t::k::b):V)::zJ 98) rfl ?_;dsimp only[zJ]
     repeat' (first|refine Z3 (Zj iC (Zj g1 (Zj g2 (Zj k1 (Zj k2 (Zj lN (Zj qB (Zj BB (Zj hm h5))))))))) ?_|refine Zt ?_|(refine cC 5 fun KL hL=>?_)|refine Y8 fun K hK=>?_|(apply hK;clear hK K)|((first|refine Zk 1 [0,0,0,0,0,0,0,0,0,0,0,0,0,0,0,0,0,0,0,1,0,0,0] ?_|refine Zk 1 [] ?_);refine Zl ?_)|(refine Yb rfl ?_ ?_<;>intro ab<;>(try simp at ab)<;>try exact dc)|refine Z6 (Zj iC (Zj g1 (Zj g2 (Zj k1 (Zj k2 (Zj lN (Zj qB (Zj BB (Zj hm h5))))))))) ?_|refine Zx ?_|clear hK K|(refine hL _ _ _ ?_)|(clear hK K)|(clear hL KL))
     all_goals(try simp)
     all_goals first
      |exact⟨_,qe _ (by decide),by simp,.pure (by simp)⟩
      |exact⟨_,qk t.toNat _ _ _ (by omega) (by simp only[apT,apU,apS,apV];omega) (by simp only[apT,apU,apS,apV];omega) (by simp only[apT,apU,apS,apV];omega) (by simp only[apT,apU,apS,apV];omega),by simp,.pure (by simp)⟩
      |fail
    ·have h5:(131072<m)=True:=eq_true h3
     have h6:(m<65536)=False:=eq_false (by omega)
     clear h3
     refine cR func183 rfl call183 ?_
     refine af (s':=(.str (t::k::b):V)::zJ 98) rfl ?_;dsimp only[zJ]
     repeat' (first|refine Z3 (Zj iC (Zj g1 (Zj g2 (Zj k1 (Zj k2 (Zj lN (Zj qB (Zj BB (Zj hm (Zj h5 h6)))))))))) ?_|refine Zt ?_|(refine cC 5 fun KL hL=>?_)|refine Y8 fun K hK=>?_|(apply hK;clear hK K)|((first|refine Zk 1 [0,0,0,0,0,0,0,0,0,0,0,0,0,0,0,0,0,0,0,1,0,0,0] ?_|refine Zk 1 [] ?_);refine Zl ?_)|(refine Yb rfl ?_ ?_<;>intro ab<;>(try simp at ab)<;>try exact dc)|refine Z6 (Zj iC (Zj g1 (Zj g2 (Zj k1 (Zj k2 (Zj lN (Zj qB (Zj BB (Zj hm (Zj h5 h6)))))))))) ?_|refine Zx ?_|clear hK K|(refine hL _ _ _ ?_)|(clear hK K)|(clear hL KL))
     all_goals(try simp)
     all_goals first
      |exact⟨_,qe _ (by decide),by simp,.pure (by simp)⟩
      |exact⟨_,qk t.toNat _ _ _ (by omega) (by simp only[apT,apU,apS,apV];omega) (by simp only[apT,apU,apS,apV];omega) (by simp only[apT,apU,apS,apV];omega) (by simp only[apT,apU,apS,apV];omega),by simp,.pure (by simp)⟩
      |fail
    ·obtain⟨h3,h4⟩:=h3
     have h5:(m<65536)=False:=eq_false (by omega)
     have h6:(131072<m)=False:=eq_false (by omega)
     have h7:m≤131072:=by omega
     clear h3 h4
     refine cR func183 rfl call183 ?_
     refine af (s':=(.str (t::k::b):V)::zJ 98) rfl ?_;dsimp only[zJ]
     repeat' (first|refine Z3 (Zj iC (Zj g1 (Zj g2 (Zj k1 (Zj k2 (Zj lN (Zj qB (Zj BB (Zj hm (Zj h5 h6)))))))))) ?_|refine Zt ?_|(refine cC 5 fun KL hL=>?_)|refine Y8 fun K hK=>?_|(apply hK;clear hK K)|((first|refine Zk 1 [0,0,0,0,0,0,0,0,0,0,0,0,0,0,0,0,0,0,0,1,0,0,0] ?_|refine Zk 1 [] ?_);refine Zl ?_)|(refine Yb rfl ?_ ?_<;>intro ab<;>(try simp at ab)<;>try exact dc)|refine Z6 (Zj iC (Zj g1 (Zj g2 (Zj k1 (Zj k2 (Zj lN (Zj qB (Zj BB (Zj hm (Zj h5 h6)))))))))) ?_|refine Zx ?_|clear hK K|(refine hL _ _ _ ?_)|(clear hK K)|(clear hL KL))
     all_goals(try simp)
     all_goals first
      |exact⟨_,qe _ (by decide),by simp,.pure (by simp)⟩
      |exact⟨_,qk t.toNat _ _ _ (by omega) (by simp only[apT,apU,apS,apV];omega) (by simp only[apT,apU,apS,apV];omega) (by simp only[apT,apU,apS,apV];omega) (by simp only[apT,apU,apS,apV];omega),by simp,.pure (by simp)⟩
      |fail
end Go.Proofs.YtjlnoogcggdhkaaGreatDoor
namespace Go.Wk
open Go.VS
structure El where
 t:Int
 c:Bs
 r:Bs
def El.cs(e:El):List V:=[.int .i64 e.t,.str e.c,.str e.r]
@[simp] theorem El.Tz(e:El):bf e.cs:=by simp[El.cs]
structure E3 (n : Nat) (e : El) : Prop where
 t0:0≤e.t
 t1:e.t<256
 c:e.c.length≤n
 r:e.r.length≤n
 m:e.c.length≤131072
def afC(l:List El):V:=.sl l.length (l.flatMap El.cs)
theorem E4(l:List El):(l.flatMap El.cs).length=l.length*3:=Go.Stp.eD (m:=3) (fun _=>rfl) l
theorem QD(l:List El):bf (l.flatMap El.cs):=Go.Stp.kG (fun e=>e.Tz) l
theorem YQ(l:List El)(i:Nat)(h:i<l.length):((l.flatMap El.cs).drop (i*3)).take 3=l[i].cs:=Go.Stp.pW (m:=3) (fun _=>rfl) l i h
def Vf(b:Bs)(v:V):Prop:=(∃er:Int,v=.aB [.aj,.int .i64 er]∧er≠0)∨ ∃l:List El,v=.aB [afC l,.int .i64 0]∧l.length≤b.length∧ ∀e∈l,E3 b.length e
end Go.Wk
namespace Go.Proofs.YtjlnoogcggdhkaaGreatDoor
open Go.Proofs.Tryz
open Go.VS Go.Wk
attribute [local irreducible] bj au bE aS bz
theorem Og(b:Bs)(hb:b.length≤1000000000):EP prog 184 [.str b] (Vf b):=by
 obtain⟨Q,hQ⟩: ∃Q,Vf b=Q:=⟨_,rfl⟩
 have qe: ∀er:Int,er≠0→Q (.aB [.aj,.int .i64 er]):=fun er h=>hQ▸.inl ⟨er,rfl,h⟩
 have qk: ∀l:List El,l.length≤b.length→(∀e∈l,E3 b.length e)→Q (.aB [.sl l.length (l.flatMap El.cs),.int .i64 0]):=fun l h1 h2=>hQ▸.inr ⟨l,rfl,h1,h2⟩
 rw[hQ]
 clear hQ
 refine cR func184 rfl call184 ?_
 refine af (s':=(.str b:V)::zJ 25) rfl ?_;dsimp only[zJ]
 repeat' (first|refine Zq ?_|refine Zt ?_|(refine Yb rfl ?_ ?_<;>intro ab<;>(try simp at ab)<;>try exact dc))
 refine bm (α:=Bs×List El) (fun x=>(some (V.str x.1)::none::zS 2 (some (V.av 0 0 x.2.length 3)::zS 21 []))) (fun x=> [.live (x.2.flatMap El.cs)]) (fun x=>x.1.length+x.2.length≤b.length∧ ∀e∈x.2,E3 b.length e) (fun x=>x.1.length) (b,[]) ⟨by simp,by simp⟩ ?_ ?_
 ·dsimp only[aE,zN,zS]
  exact Yr [none] (by simp[ae])
 rintro⟨B,l⟩ ⟨h1,h2⟩ KL hL
 dsimp only at h1 h2
 dsimp only[aE,zN,zS]
 have bZ:=E4 l
 have vZ:=QD l
 have mL:List.take (l.length*3) (l.flatMap El.cs)=l.flatMap El.cs:=apR (by omega)
 by_cases hB:B=[]
 ·subst hB
  have q:=qk l (by simp at h1;omega) h2
  generalize l.flatMap El.cs=C at*
  refine iz 0 rfl vZ (by simp[fz,mL,bZ];rfl) (by simp[im];rfl) ?_
  repeat' (first|refine Zq ?_|refine Zt ?_|(refine Yb rfl ?_ ?_<;>intro ab<;>(try simp at ab)<;>try exact dc))
  simp
  exact⟨_,q,by simp,.pure (by simp)⟩
 ·have cI:0<B.length:=aqj.2 hB
  have Vd: ¬(B.length:Int)=0:=by omega
  have hr:=rE B (by omega)
  have hn:l.length+1≤1000000000:=by omega
  have uk:(l.length+1)*48≤140737488355328:=by omega
  have F8: ∀e:El,E3 b.length e→ ∀x∈l++[e],E3 b.length x:=fun e he x hx=>by
   rcases aqr.1 hx with h|h
   ·exact h2 x h
   ·simp at h;subst h;exact he
  have Bt: ∀e:El,(l++[e]).flatMap El.cs=l.flatMap El.cs++e.cs:=fun e=>by simp
  generalize hC:l.flatMap El.cs=C at*
  repeat' (first|(refine Zu ?_;intro K9 h9;simp(disch:=first|exact dd|fail) [hB,cI,bZ,mL];refine Zm ?_;((first|(refine jI hr (by simp) (fun v hv hp=>?_);obtain⟨t,c,r,rest,er,rfl,g1,g2,g3,g4,g5⟩:=hv)|skip)<;>(refine Zf h9 ?_;clear h9 K9)))|refine Zt ?_|(refine Yb rfl ?_ ?_<;>intro ab<;>(try simp at ab)<;>try exact dc))
  all_goals(try simp)
  all_goals first
   |exact⟨_,qe _ (by assumption),by simp,.pure (by simp)⟩
   |(refine hL (rest,l++[⟨t,c,r⟩]) _ _ ⟨by simp;omega,F8 _ ⟨g1.1,g1.2,by dsimp only;omega,by dsimp only;omega,g5⟩⟩ (by dsimp only;omega) ?_;refine Le.mk [some 3] (by dsimp only[aE,zN,zS];simp) (aZ (by simp) (by simp[ae,az,aN,Bt,El.cs,vZ])) (by simp))
   |fail
end Go.Proofs.YtjlnoogcggdhkaaGreatDoor
