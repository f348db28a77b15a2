/-
 VALUE SEMANTICS, 29: regions whose guards hang on operations that were passed over.
 Conditions: none.
-/
import Derived.Test.YtjlnoogcggdhkaaGreatDoorGd
import Derived.Laws.AppendOwn
set_option linter.all false
namespace Go.VS
variable {rd : Option Nat} {b0 : Nat}
def H8:Value→Bool
 |.bool _=>false
 |_=>true
def dS:V:=.val undef
@[simp] theorem XG:H8 undef=true:=rfl
def ev(ops:Array Oper)(g:Option (Nat×Bool))(s:List V):Option Bool:=
 match g with
 |none=>some true
 |some (j,want)=>match(ops[j]?).bind (·.dst)with
  |some d=>(match bL s d with
   |.bool b=>some (b==want)
   |.val u=>if H8 u=true then some false else none
   |_=>none)
  |none=>none
def bE(P:Program)(ops:Array Oper):List Oper→List V→List Row→KS→Prop
 |[],s,rows,K=>K s rows
 |o::os,s,rows,K=>(ev ops o.guard s=some true∧bF P false o.op rows.length s rows fun v ad=>bE P ops os (aD s o.dst v) ad K)∨(ev ops o.guard s=some false∧bE P ops os (aD s o.dst dS) rows K)
section
variable {P : Program} {n0 : Nat} {Q : Exit → KS} {s : List V} {rows : List Row}
theorem gG{w:World}{ro:Nat→Prop}{ρ:bP}{a:Act}{ops:Array Oper}{o:Oper}{b:Bool}(hs:eV b0 w ro ρ a s)(h:ev ops o.guard s=some b):Region.wanted o (yielded ops a.tmps)=b:=by
 unfold ev at h
 split at h
 ·rename_i hg;simp at h;subst h;simp[Region.wanted,hg]
 ·rename_i j want hg
  split at h
  ·rename_i d hd
   have wU: ∀{x:V},bL s d=x→x≠.aa→ ∃u,a.tmps.toList[d]?=some u∧Rd w ro ρ u x:=by
    intro x hx hn
    have aO:d<s.length:=by
     rcases apQ d s.length with h|h
     ·exact h
     ·rw[gb,aql h]at hx;exact absurd hx.symm hn
    have PW:s[d]?=some x:=by
     rw[gb]at hx
     obtain⟨y,hy⟩:=aC aO
     rw[hy]at hx⊢
     simpa using hx
    exact hs.pI.get PW
   split at h
   ·rename_i b' hb
    obtain⟨u,hu,hr⟩:=wU hb (by simp)
    obtain rfl:=oa hr
    have hy:yielded ops a.tmps j=some b':=by
     unfold yielded
     rw[hd]
     have:a.tmps[d]?=some (.bool b'):=by simpa using hu
     simp[this]
    simp at h
    subst h
    simp[Region.wanted,hg,hy]
   ·rename_i u hb
    split at h
    ·rename_i hnb
     simp at h
     subst h
     obtain⟨u',hu,hr⟩:=wU hb (by simp)
     have he:u'=u:=by cases hr;rfl
     subst he
     have ha:a.tmps[d]?=some u':=by simpa using hu
     have hy:yielded ops a.tmps j=none:=by
      unfold yielded
      rw[hd]
      cases u'<;>simp_all[H8]
     simp[Region.wanted,hg,hy]
    ·simp at h
   ·simp at h
  ·simp at h
theorem Bo{ops:Array Oper}{K:KS}: ∀(is:List Nat) (os:List Oper),is.length=os.length→(∀(t:Nat) i o,is[t]?=some i→os[t]?=some o→ops[i]?=some o)→ ∀(s:List V) (rows:List Row) (c:Ctx) (a:Act) (w:World),iL P c→
  bE P ops os s rows K→gj c s rows a w→wpOpsIn (fw rd) 0 P ops (lift c (cZ K Q)) is a w
 |[],[],_,_,s,rows,c,a,w,_,h,hc=>⟨s,rows,h,hc⟩
 |[],_::_,hl,_,_,_,_,_,_,_,_,_=>by simp at hl
 |_::_,[],hl,_,_,_,_,_,_,_,_,_=>by simp at hl
 |i::is,o::os,hl,ho,s,rows,c,a,w,go,h,hc=>by
  obtain⟨ro,ρ,g,hs⟩:=hc
  have vK:ops[i]?=some o:=ho 0 i o rfl rfl
  have ih:=fun s rows a w (h:bE P ops os s rows K) hc=>Bo is os (by simpa using hl) (fun t i o h1 h2=>ho (t+1) i o (by simpa using h1) (by simpa using h2)) s rows c a w go h hc
  rw[wpOpsIn_cons]
  unfold wpOpIn
  simp only[vK]
  simp only[bE]at h
  rcases h with⟨hg,h⟩|⟨hg,h⟩
  ·have hw:=gG (o:=o) hs hg
   rw[if_pos hw]
   refine sd (c:=c) go hs g h ?_
   intro v w' r ad aY ρ' h1 h2 h3
   exact ih _ _ _ _ h1 ⟨aY,ρ',h2,h3⟩
  ·have hw:=gG (o:=o) hs hg
   rw[if_neg (by simp[hw])]
   exact⟨fun _ _=>trivial,ih _ _ _ _ h ⟨ro,ρ,g,hs.put .val o.dst⟩⟩
theorem Lo{id:Nat}{ops:Array Oper}(h:bE P ops ops.toList s rows (Q .normal)):aS P n0 (.region id ops false) Q s rows:=by
 intro c a w hn hc rd ju
 have:=Bo (rd:=rd) (P:=P) (Q:=Q) (K:=Q .normal) (List.range ops.size) ops.toList (by simp) (fun t i o h1 h2=>by
  have aO:=(apN.1 h1).1
  simp at aO
  rw[aqK aO]at h1
  simp at h1
  subst h1
  simpa using h2) s rows c a w hn.2 h hc
 refine wpIn_mono (wpIn_region this) ?_
 rintro e a' w' ⟨s',ad,hQ,c8⟩
 cases e<;>exact⟨s',ad,hQ,c8⟩
section
variable {ops : Array Oper} {K : KS} {o : Oper} {os : List Oper}
theorem PX(h:K s rows):bE P ops [] s rows K:=h
theorem H9(hg:ev ops o.guard s=some true)(h: ∀K2:KV,(∀v ad,bE P ops os (aD s o.dst v) ad K→K2 v ad)→bF P false o.op rows.length s rows K2):bE P ops (o::os) s rows K:=.inl ⟨hg,h _ fun _ _ h=>h⟩
theorem PY(hg:o.guard=none)(h: ∀K2:KV,(∀v ad,bE P ops os (aD s o.dst v) ad K→K2 v ad)→bF P false o.op rows.length s rows K2):bE P ops (o::os) s rows K:=H9 (by unfold ev;rw[hg]) h
theorem S4(hg:ev ops o.guard s=some false)(h:bE P ops os (aD s o.dst dS) rows K):bE P ops (o::os) s rows K:=.inr ⟨hg,h⟩
theorem Lp{s':List V}(e:s=s')(h:bE P ops os s' rows K):bE P ops os s rows K:=by subst e;exact h
end
end
attribute [simp] ev dS
end Go.VS
set_option linter.all false
namespace Go.VS
open Go.RowKit
section
variable {P : Program} {f : FuncId} {e : TypeId} {size bytes n : Nat} {cells : List V}
end
end Go.VS
set_option linter.all false
namespace Go.VS
def Yl:=@PY
def Ym:=@H9
def Yn:=@S4
def Yo:=@PX
def Yq:=@Lo
theorem Yp{P:Program}{ops:Array Oper}{K:KS}{os:List Oper}{s s':List V}{rows:List Row}(h:bE P ops os s' rows K)(e:s=s':=by first|(dsimp only[aD,sset];done)|rfl):bE P ops os s rows K:=Lp e h
theorem ay{p q:Prop}(h:q)(t:Wq q→p:=by intro h;first|exact Yo h.1|exact Y7 h.1|exact Yq h.1|exact Y6 h.1|exact Y9 h.1|with_reducible exact A0 h.1|exact XH h.1|exact Ya h.1|exact Yc h.1|exact Ye (Yf h.1)|exact Yg h.1|exact Yd h.1|exact A3 h.1|exact A4 rfl h.1|exact A5 h.1|exact A1 h.1|exact A2 h.1|exact A6 h.1|fail):p:=t ⟨h⟩
theorem fc{p q:Prop}(h:q)(t:Wq q→p:=by intro h;first|exact Yl rfl h.1|exact Y1 rfl rfl h.1|exact Y2 rfl rfl h.1|fail):p:=t ⟨h⟩
theorem fU{p r q:Prop}(hr:r)(h:q)(t:Wq r→Wq q→p:=by intro a b;first|exact Ym a.1 b.1|exact Y4 rfl a.1 b.1|exact Y5 rfl a.1 b.1|fail):p:=t ⟨hr⟩ ⟨h⟩
theorem C0{p r q:Prop}(hr:r)(h:q)(t:Wq r→Wq q→p:=by intro a b;first|exact Yn a.1 b.1|exact Yi rfl a.1 b.1|exact Yj rfl a.1 b.1|fail):p:=t ⟨hr⟩ ⟨h⟩
theorem C1{p q:Prop}(h:q)(t:Wq q→p:=by intro h;first|exact Yp h.1|exact Yt h.1|fail):p:=t ⟨h⟩
theorem fe{p r q:Prop}(hr:r)(h:q)(t:Wq r→Wq q→p:=by intro a b;(repeat(refine Yz ?_));first|exact a.1 _ _ (Yp b.1)|exact a.1 _ _ (Yt b.1)|fail):p:=t ⟨hr⟩ ⟨h⟩
theorem ZqU{p q:Prop}(h:q)(t:Wq q→p:=by intro h;refine fc ?_;intro K9 h9;refine Zd ?_;refine fe h9 ?_;first|exact h.1|fail):p:=t ⟨h⟩
theorem yk{p q:Prop}(h:q)(t:Wq q→p:=by intro h;(first|refine fc ?_|(refine fU ?_ ?_;(focus (simp;done))));intro K9 h9;refine Zd ?_;refine fe h9 ?_;first|exact h.1|fail):p:=t ⟨h⟩
theorem gm{p q:Prop}(h:q)(t:Wq q→p:=by intro h;refine C0 ?_ ?_;(focus (simp;done));refine C1 ?_;first|exact h.1|fail):p:=t ⟨h⟩
theorem Z0U{p r q:Prop}(hr:r)(h:q)(t:Wq r→Wq q→p:=by intro a b;refine fc ?_;intro K9 h9;simp(disch:=first|exact dd|fail) [a.1];refine Zm ?_;refine fe h9 ?_;first|exact b.1|fail):p:=t ⟨hr⟩ ⟨h⟩
theorem Z1U{p r r2 q:Prop}(hr:r)(j2:r2)(h:q)(t:Wq r→Wq r2→Wq q→p:=by intro a b c;refine fc ?_;intro K9 h9;simp(disch:=first|exact dd|fail) [a.1];refine Zm ?_;(first|refine Zc b.1 ?_|refine Zc b.1.1 ?_|refine Zc b.1.2 ?_|refine Zc b.1.2.1 ?_|refine Zc b.1.2.2 ?_|refine Zc b.1.2.2.1 ?_|refine Zc b.1.2.2.2 ?_|skip)<;>(refine fe h9 ?_;first|exact c.1|fail)):p:=t ⟨hr⟩ ⟨j2⟩ ⟨h⟩
theorem Z2U{p r q:Prop}(hr:r)(h:q)(t:Wq r→Wq q→p:=by intro a b;refine fc ?_;intro K9 h9;refine Zd ?_;(first|refine Zc a.1 ?_|refine Zc a.1.1 ?_|refine Zc a.1.2 ?_|refine Zc a.1.2.1 ?_|refine Zc a.1.2.2 ?_|refine Zc a.1.2.2.1 ?_|refine Zc a.1.2.2.2 ?_|skip)<;>(refine fe h9 ?_;first|exact b.1|fail)):p:=t ⟨hr⟩ ⟨h⟩
theorem b9{p r q:Prop}(hr:r)(h:q)(t:Wq r→Wq q→p:=by intro a b;(first|refine fc ?_|(refine fU ?_ ?_;(focus (simp[a.1];done))));intro K9 h9;simp(disch:=first|exact dd|fail) [a.1];refine Zm ?_;refine fe h9 ?_;first|exact b.1|fail):p:=t ⟨hr⟩ ⟨h⟩
theorem bS{p r r2 q:Prop}(hr:r)(j2:r2)(h:q)(t:Wq r→Wq r2→Wq q→p:=by intro a b c;(first|refine fc ?_|(refine fU ?_ ?_;(focus (simp[a.1];done))));intro K9 h9;simp(disch:=first|exact dd|fail) [a.1];refine Zm ?_;(first|refine Zc b.1 ?_|refine Zc b.1.1 ?_|refine Zc b.1.2 ?_|refine Zc b.1.2.1 ?_|refine Zc b.1.2.2 ?_|refine Zc b.1.2.2.1 ?_|refine Zc b.1.2.2.2 ?_|skip)<;>(refine fe h9 ?_;first|exact c.1|fail)):p:=t ⟨hr⟩ ⟨j2⟩ ⟨h⟩
theorem od{p r q:Prop}(hr:r)(h:q)(t:Wq r→Wq q→p:=by intro a b;(first|refine fc ?_|(refine fU ?_ ?_;(focus (simp;done))));intro K9 h9;refine Zd ?_;(first|refine Zc a.1 ?_|refine Zc a.1.1 ?_|refine Zc a.1.2 ?_|refine Zc a.1.2.1 ?_|refine Zc a.1.2.2 ?_|refine Zc a.1.2.2.1 ?_|refine Zc a.1.2.2.2 ?_|skip)<;>(refine fe h9 ?_;first|exact b.1|fail)):p:=t ⟨hr⟩ ⟨h⟩
theorem aK{p r q:Prop}(hr:r)(h:q)(t:Wq r→Wq q→p:=by intro a b;refine C0 ?_ ?_;(focus (simp[a.1];done));refine C1 ?_;first|exact b.1|fail):p:=t ⟨hr⟩ ⟨h⟩
end Go.VS
