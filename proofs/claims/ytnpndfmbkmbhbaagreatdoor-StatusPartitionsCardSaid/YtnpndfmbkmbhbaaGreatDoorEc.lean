/-
 STATUS: what a judge says of one proof.
 Conditions: none.
-/
import Derived.Test.YtnpndfmbkmbhbaaGreatDoorEb
set_option maxRecDepth 100000
set_option maxHeartbeats 32000000
set_option linter.all false
namespace Go.Sta
open Go.VS Go.Stp Go.Proofs.YtnpndfmbkmbhbaaGreatDoor
theorem flat_get {α β : Type} {f : α → List β} {m : Nat} (h : ∀ a, (f a).length = m) (l : List α) (i o : Nat) (hi : i < l.length) (ho : o < m) : (l.flatMap f)[i * m + o]? = (f l[i])[o]? := by
 have h1 := flat_at h l i hi
 have h2 := congrArg (fun q => q[o]?) h1
 simp only [List.getElem?_take, ho, if_true, List.getElem?_drop] at h2
 exact h2
theorem li_len (l : Li) : l.c.length = 17 := rfl
theorem lis_len (l : List Li) : (l.flatMap Li.c).length = l.length * 17 := flat_len li_len l
theorem lis_at (l : List Li) (i : Nat) (h : i < l.length) : ((l.flatMap Li.c).drop (i * 17)).take 17 = l[i].c := flat_at li_len l i h
def lisV (ls : List Li) : V := .sl ls.length (ls.flatMap Li.c)
def flV (l : List Bool) : V := .sl l.length (l.map V.bool)
def jdC (c : Ce) (ls : List Li) (fl : List Bool) (t : Int) : List V := V.str c.raw :: V.str c.tbs :: V.int .i64 c.serial :: [nmV c.issuer, nmV c.subject, .int .i64 c.nb, .int .i64 c.na, .int .i64 c.key.h, .str c.key.id, .str c.key.root, .bool c.info.basic, .bool c.info.ca, .int .i64 c.info.plen, .int .i64 c.info.usage, strV c.info.purposes, strV c.info.policies, mpsV c.info.maps, .int .i64 c.info.rexp, .int .i64 c.info.imap, .int .i64 c.info.iany, gnsV c.info.names, .bool c.info.hasC, gnsV c.info.cons.p, gnsV c.info.cons.x, .str c.info.sk, .str c.info.ak, ptsV c.info.points, ptsV c.info.fresh, exsV c.info.unk, .str c.sig, lisV ls, flV fl, .int .i64 t]
@[simp] theorem lisV_pure (r : List Li) : (lisV r).Pure := .sl
@[simp] theorem lisV_one (r : List Li) : (lisV r).one = true := rfl
@[simp] theorem flV_pure (r : List Bool) : (flV r).Pure := .sl
@[simp] theorem flV_one (r : List Bool) : (flV r).one = true := rfl
structure WWo (c : Ce) (ls : List Li) : Prop where
 ci : WN c.issuer
 pl : c.info.points.length ≤ 65536
 pw : ∀ p ∈ c.info.points, WPk p
 n : ls.length ≤ 65536
 l : ∀ l ∈ ls, WSt l
def okK (ls : List Li) (k : Int) : Prop := k = -1 ∨ ∃ q : Nat, q < ls.length ∧ k = q
end Go.Sta
namespace Go.Proofs.YtnpndfmbkmbhbaaGreatDoor
open Go.Proofs.Tryz
open Go.VS Go.Stp Go.Sta
attribute [local irreducible] arun arunD arunU AWp aend verE DU.arunD
attribute [local simp] DU.gval
theorem wmask_call {c : Ce} {ls : List Li} (w : WWo c ls) {l : Li} (h : l ∈ ls) : PCall prog 23 [.agg c.c, .agg l.c] (.int .i64 (maskS c l)) := smask_call' c l w.ci (w.l l h).k w.pl fun p hp => ⟨(w.pw p hp).pn, fun _ => w.pw p hp⟩
theorem jnum_call (c : Ce) (ls : List Li) (fl : List Bool) (t : Int) (hn : ls.length ≤ 65536) (i : Nat) (hi : i < ls.length) (k : Int) (hk : okK ls k) : PCall prog 26 [.agg (jdC c ls fl t), .agg [.int .i64 i, .int .i64 k]] (.int .i64 (nmr ls (i, k))) := by
 have hln := lis_len ls
 unfold jdC lisV flV
 have hc : ∀ q (hq : q < ls.length), (ls.flatMap Li.c)[q * 17 + 5]? = some (.int .i64 ls[q].number) := fun q hq => flat_get li_len ls q 5 hq (by omega)
 rcases hk with rfl | ⟨q, hq, rfl⟩
 ·have h1 := hc i hi
  rw [show nmr ls ((i : Int), -1) = ls[i].number by simp [nmr, gi_get ls i hi]]
  generalize ls[i].number = r at *
  generalize ls.flatMap Li.c = C at *
  have h1 := (List.getElem?_eq_some_iff.1 h1).2
  generalize fl.map V.bool = F at *
  refine pcall_body func26 rfl call26 ?_ ?_
  rotate_left 1
  refine awp_slots (s' := (.agg (V.str c.raw :: V.str c.tbs :: V.int .i64 c.serial :: [nmV c.issuer, nmV c.subject, .int .i64 c.nb, .int .i64 c.na, .int .i64 c.key.h, .str c.key.id, .str c.key.root, .bool c.info.basic, .bool c.info.ca, .int .i64 c.info.plen, .int .i64 c.info.usage, strV c.info.purposes, strV c.info.policies, mpsV c.info.maps, .int .i64 c.info.rexp, .int .i64 c.info.imap, .int .i64 c.info.iany, gnsV c.info.names, .bool c.info.hasC, gnsV c.info.cons.p, gnsV c.info.cons.x, .str c.info.sk, .str c.info.ak, ptsV c.info.points, ptsV c.info.fresh, exsV c.info.unk, .str c.sig, .sl ls.length C, .sl fl.length F, .int .i64 t]) : V) :: (.agg [.int .i64 i, .int .i64 (-1)] : V) :: zJ 20) rfl ?_; dsimp only [zJ]
  ·repeat' (first | (refine Zu ?_; intro K9 h9; simp (disch := first | exact dd | fail) [h1, hln]; refine Zm ?_; refine Zf h9 ?_; clear h9 K9) | refine Zt ?_ | refine Y8 fun K hK => ?_ | (apply hK; clear hK K) | (refine Yb rfl ?_ ?_ <;> intro hcnd <;> (try simp at hcnd) <;> try exact dc) | refine Zx ?_ | clear hK K)
   exact .pure .int
  ·exact .int
 ·have h1 := hc q hq
  have hq1 : ¬ (q : Int) = -1 := by omega
  rw [show nmr ls ((i : Int), (q : Int)) = ls[q].number by simp [nmr, gi_get ls q hq, hq1]]
  generalize ls[q].number = r at *
  generalize ls.flatMap Li.c = C at *
  have h1 := (List.getElem?_eq_some_iff.1 h1).2
  generalize fl.map V.bool = F at *
  refine pcall_body func26 rfl call26 ?_ ?_
  rotate_left 1
  refine awp_slots (s' := (.agg (V.str c.raw :: V.str c.tbs :: V.int .i64 c.serial :: [nmV c.issuer, nmV c.subject, .int .i64 c.nb, .int .i64 c.na, .int .i64 c.key.h, .str c.key.id, .str c.key.root, .bool c.info.basic, .bool c.info.ca, .int .i64 c.info.plen, .int .i64 c.info.usage, strV c.info.purposes, strV c.info.policies, mpsV c.info.maps, .int .i64 c.info.rexp, .int .i64 c.info.imap, .int .i64 c.info.iany, gnsV c.info.names, .bool c.info.hasC, gnsV c.info.cons.p, gnsV c.info.cons.x, .str c.info.sk, .str c.info.ak, ptsV c.info.points, ptsV c.info.fresh, exsV c.info.unk, .str c.sig, .sl ls.length C, .sl fl.length F, .int .i64 t]) : V) :: (.agg [.int .i64 i, .int .i64 q] : V) :: zJ 20) rfl ?_; dsimp only [zJ]
  ·repeat' (first | (refine Zu ?_; intro K9 h9; simp (disch := first | exact dd | fail) [h1, hln, hq1]; refine Zm ?_; refine Zf h9 ?_; clear h9 K9) | refine Zt ?_ | refine Y8 fun K hK => ?_ | (apply hK; clear hK K) | (refine Yb rfl ?_ ?_ <;> intro hcnd <;> (try simp at hcnd) <;> try exact dc) | refine Zx ?_ | clear hK K)
   exact .pure .int
  ·exact .int
theorem jser_call (a b : Li) (ha : WSt a) (hb : WSt b) : PCall prog 27 [.agg a.c, .agg b.c] (.bool (serB a b)) := by
 have hd := dmatch_call a.issuer b.issuer ha.k.issuer hb.k.issuer
 have hs := same_sc_call a b ha.k hb.k
 unfold serB
 generalize nameB a.issuer b.issuer = r1 at *
 generalize sameSc a b = r2 at *
 unfold Li.c at *
 cases r1
 ·refine pcall_body func27 rfl call27 ?_ ?_
  rotate_left 1
  refine awp_slots (s' := (.agg [.str a.raw, .str a.tbs, nmV a.issuer, .int .i64 a.this, .int .i64 a.next, .int .i64 a.number, .int .i64 a.base, .str a.ak, .bool a.has, gnsV a.sc.names, .bool a.sc.ou, .bool a.sc.oc, .int .i64 a.sc.reasons, .bool a.sc.ind, ptsV a.fresh, ensV a.entries, .str a.sig] : V) :: (.agg [.str b.raw, .str b.tbs, nmV b.issuer, .int .i64 b.this, .int .i64 b.next, .int .i64 b.number, .int .i64 b.base, .str b.ak, .bool b.has, gnsV b.sc.names, .bool b.sc.ou, .bool b.sc.oc, .int .i64 b.sc.reasons, .bool b.sc.ind, ptsV b.fresh, ensV b.entries, .str b.sig] : V) :: zJ 13) rfl ?_; dsimp only [zJ]
  ·repeat' (first | ((first | refine ZuU ?_ | (refine ZvU ?_ ?_; (focus (simp; done)))); intro K9 h9; refine Zd ?_; ((first | refine Ap hd ?_ | skip) <;> (refine ZfU h9 ?_; clear h9 K9))) | refine ZtU ?_ | refine Y8 fun K hK => ?_ | (apply hK; clear hK K) | refine ZoU ?_ | refine Zx ?_ | clear hK K)
   exact .pure .bool
  ·exact .bool
 ·refine pcall_body func27 rfl call27 ?_ ?_
  rotate_left 1
  refine awp_slots (s' := (.agg [.str a.raw, .str a.tbs, nmV a.issuer, .int .i64 a.this, .int .i64 a.next, .int .i64 a.number, .int .i64 a.base, .str a.ak, .bool a.has, gnsV a.sc.names, .bool a.sc.ou, .bool a.sc.oc, .int .i64 a.sc.reasons, .bool a.sc.ind, ptsV a.fresh, ensV a.entries, .str a.sig] : V) :: (.agg [.str b.raw, .str b.tbs, nmV b.issuer, .int .i64 b.this, .int .i64 b.next, .int .i64 b.number, .int .i64 b.base, .str b.ak, .bool b.has, gnsV b.sc.names, .bool b.sc.ou, .bool b.sc.oc, .int .i64 b.sc.reasons, .bool b.sc.ind, ptsV b.fresh, ensV b.entries, .str b.sig] : V) :: zJ 13) rfl ?_; dsimp only [zJ]
  ·repeat' (first | ((first | refine ZuU ?_ | (refine ZvU ?_ ?_; (focus (simp; done)))); intro K9 h9; refine Zd ?_; ((first | refine Ap hd ?_ | refine Ap hs ?_ | skip) <;> (refine ZfU h9 ?_; clear h9 K9))) | refine ZtU ?_ | refine Y8 fun K hK => ?_ | (apply hK; clear hK K) | refine ZoU ?_ | refine Zx ?_ | clear hK K)
   exact .pure .bool
  ·exact .bool
theorem jcmp_call (c : Ce) (ss : List An) (ls : List Li) (t : Int) (w : WWo c ls) (i : Nat) (hi : i < ls.length) : PCall prog 39 [.agg (jdC c ls (ls.map (sgdB · ss)) t), .int .i64 i] (.bool (cmpB c ss ls i)) := by
 have hln := lis_len ls
 have hn := w.n
 have hm := wmask_call w (List.getElem_mem hi)
 have h1 := lis_at ls i hi
 have h2 : (ls.flatMap Li.c)[i * 17 + 6]? = some (.int .i64 ls[i].base) := flat_get li_len ls i 6 hi (by omega)
 have h3 : ((ls.map (sgdB · ss)).map V.bool)[i]? = some (.bool (sgdB ls[i] ss)) := by simp [hi]
 have hfl : (ls.map (sgdB · ss)).length = ls.length := by simp
 have hF : ((ls.map (sgdB · ss)).map V.bool).length = ls.length := by simp
 have hi' : (i : Int) < ls.length := by omega
 have hr : cmpB c ss ls i = (decide (ls[i].base = -1) && sgdB ls[i] ss && !decide (maskS c ls[i] = 0)) := by
  simp [cmpB, gi_get ls i hi, hi]
 rw [hr]
 unfold jdC lisV flV
 rw [hfl]
 clear hr hfl
 generalize (ls.map (sgdB · ss)).map V.bool = F at *
 generalize ls[i] = l at *
 generalize sgdB l ss = b at *
 generalize maskS c l = m at *
 generalize ls.flatMap Li.c = C at *
 rw [Ce.c.eq_1] at hm
 rw [show l.c = [.str l.raw, .str l.tbs, nmV l.issuer, .int .i64 l.this, .int .i64 l.next, .int .i64 l.number, .int .i64 l.base, .str l.ak, .bool l.has, gnsV l.sc.names, .bool l.sc.ou, .bool l.sc.oc, .int .i64 l.sc.reasons, .bool l.sc.ind, ptsV l.fresh, ensV l.entries, .str l.sig] from rfl] at h1 hm
 have h2 := (List.getElem?_eq_some_iff.1 h2).2
 have h3 := (List.getElem?_eq_some_iff.1 h3).2
 by_cases hb : l.base = -1
 ·rw [decide_eq_true hb]
  simp only [hb] at h1 h2 hm
  cases b
  ·refine pcall_body func39 rfl call39 ?_ ?_
   rotate_left 1
   refine awp_slots (s' := (.agg (V.str c.raw :: V.str c.tbs :: V.int .i64 c.serial :: [nmV c.issuer, nmV c.subject, .int .i64 c.nb, .int .i64 c.na, .int .i64 c.key.h, .str c.key.id, .str c.key.root, .bool c.info.basic, .bool c.info.ca, .int .i64 c.info.plen, .int .i64 c.info.usage, strV c.info.purposes, strV c.info.policies, mpsV c.info.maps, .int .i64 c.info.rexp, .int .i64 c.info.imap, .int .i64 c.info.iany, gnsV c.info.names, .bool c.info.hasC, gnsV c.info.cons.p, gnsV c.info.cons.x, .str c.info.sk, .str c.info.ak, ptsV c.info.points, ptsV c.info.fresh, exsV c.info.unk, .str c.sig, .sl ls.length C, .sl ls.length F, .int .i64 t]) : V) :: (.int .i64 i : V) :: zJ 39) rfl ?_; dsimp only [zJ]
   ·repeat' (first | ((first | refine ZuD ?_ | (refine ZvD ?_ ?_; (focus (simp [h1, h2, h3, hln, hF, hi]; done)))); intro K9 h9; simp (disch := first | exact dd | fail) [h1, h2, h3, hln, hF, hi]; refine Zm ?_; refine ZfD h9 ?_; clear h9 K9) | refine ZtD ?_ | refine Y8 fun K hK => ?_ | (apply hK; clear hK K) | ((first | refine DU.Zk (ops := #[_, _, _, _, _, _, _, _, _, _, _, _, _, _, _, _, _, _, _, _, _, _, _, _, _, _, _, _, _, _, _, _, _, _, _, _, _]) 0 [0, 0, 0, 0, 0, 0, 0, 0, 0, 0, 0, 0, 0, 0, 0, 0, 0, 0, 0, 0, 0, 0, 0, 0, 0, 0, 0, 0, 0, 0, 0, 0, 0, 1, 0, 0, 0] ?_ | refine DU.Zk 0 [] ?_); refine Zl ?_) | (refine ZnD ?_ ?_; (focus (simp [h1, h2, h3, hln, hF, hi]; done)); refine ZsD ?_) | refine Zx ?_ | clear hK K)
    exact .pure .bool
   ·exact .bool
  ·have hz : (!decide (m = 0)) = (m != 0) := by cases h : decide (m = 0) <;> simp_all
   simp only [Bool.true_and, hz]
   refine pcall_body func39 rfl call39 ?_ ?_
   rotate_left 1
   refine awp_slots (s' := (.agg (V.str c.raw :: V.str c.tbs :: V.int .i64 c.serial :: [nmV c.issuer, nmV c.subject, .int .i64 c.nb, .int .i64 c.na, .int .i64 c.key.h, .str c.key.id, .str c.key.root, .bool c.info.basic, .bool c.info.ca, .int .i64 c.info.plen, .int .i64 c.info.usage, strV c.info.purposes, strV c.info.policies, mpsV c.info.maps, .int .i64 c.info.rexp, .int .i64 c.info.imap, .int .i64 c.info.iany, gnsV c.info.names, .bool c.info.hasC, gnsV c.info.cons.p, gnsV c.info.cons.x, .str c.info.sk, .str c.info.ak, ptsV c.info.points, ptsV c.info.fresh, exsV c.info.unk, .str c.sig, .sl ls.length C, .sl ls.length F, .int .i64 t]) : V) :: (.int .i64 i : V) :: zJ 39) rfl ?_; dsimp only [zJ]
   ·repeat' (first | ((first | refine ZuD ?_ | (refine ZvD ?_ ?_; (focus (simp [h1, h2, h3, hln, hF, hi]; done)))); intro K9 h9; simp (disch := first | exact dd | fail) [h1, h2, h3, hln, hF, hi]; refine Zm ?_; ((first | refine Zc hm ?_ | skip) <;> (refine ZfD h9 ?_; clear h9 K9))) | refine ZtD ?_ | refine Y8 fun K hK => ?_ | (apply hK; clear hK K) | ((first | refine DU.Zk (ops := #[_, _, _, _, _, _, _, _, _, _, _, _, _, _, _, _, _, _, _, _, _, _, _, _, _, _, _, _, _, _, _, _, _, _, _, _, _]) 0 [0, 0, 0, 0, 0, 0, 0, 0, 0, 0, 0, 0, 0, 0, 0, 0, 0, 0, 0, 0, 0, 0, 0, 0, 0, 0, 0, 0, 0, 0, 0, 0, 0, 1, 0, 0, 0] ?_ | refine DU.Zk 0 [] ?_); refine Zl ?_) | (refine ZnD ?_ ?_; (focus (simp [h1, h2, h3, hln, hF, hi]; done)); refine ZsD ?_) | refine Zx ?_ | clear hK K)
    exact .pure .bool
   ·exact .bool
 ·rw [decide_eq_false hb]
  refine pcall_body func39 rfl call39 ?_ ?_
  rotate_left 1
  refine awp_slots (s' := (.agg (V.str c.raw :: V.str c.tbs :: V.int .i64 c.serial :: [nmV c.issuer, nmV c.subject, .int .i64 c.nb, .int .i64 c.na, .int .i64 c.key.h, .str c.key.id, .str c.key.root, .bool c.info.basic, .bool c.info.ca, .int .i64 c.info.plen, .int .i64 c.info.usage, strV c.info.purposes, strV c.info.policies, mpsV c.info.maps, .int .i64 c.info.rexp, .int .i64 c.info.imap, .int .i64 c.info.iany, gnsV c.info.names, .bool c.info.hasC, gnsV c.info.cons.p, gnsV c.info.cons.x, .str c.info.sk, .str c.info.ak, ptsV c.info.points, ptsV c.info.fresh, exsV c.info.unk, .str c.sig, .sl ls.length C, .sl ls.length F, .int .i64 t]) : V) :: (.int .i64 i : V) :: zJ 39) rfl ?_; dsimp only [zJ]
  ·repeat' (first | ((first | refine ZuD ?_ | (refine ZvD ?_ ?_; (focus (simp [h1, h2, h3, hln, hF, hi, hb]; done)))); intro K9 h9; simp (disch := first | exact dd | fail) [h1, h2, h3, hln, hF, hi, hb]; refine Zm ?_; refine ZfD h9 ?_; clear h9 K9) | refine ZtD ?_ | refine Y8 fun K hK => ?_ | (apply hK; clear hK K) | ((first | refine DU.Zk (ops := #[_, _, _, _, _, _, _, _, _, _, _, _, _, _, _, _, _, _, _, _, _, _, _, _, _, _, _, _, _, _, _, _, _, _, _, _, _]) 0 [0, 0, 0, 0, 0, 0, 0, 0, 0, 0, 0, 0, 0, 0, 0, 0, 0, 0, 0, 0, 0, 0, 0, 0, 0, 0, 0, 0, 0, 0, 0, 0, 0, 1, 0, 0, 0] ?_ | refine DU.Zk 0 [] ?_); refine Zl ?_) | (refine ZnD ?_ ?_; (focus (simp [h1, h2, h3, hln, hF, hi, hb]; done)); refine ZsD ?_) | refine Zx ?_ | clear hK K)
   exact .pure .bool
  ·exact .bool
theorem jdlt_call (c : Ce) (ss : List An) (ls : List Li) (t : Int) (w : WWo c ls) (i b : Nat) (hi : i < ls.length) (hb : b < ls.length) : PCall prog 73 [.agg (jdC c ls (ls.map (sgdB · ss)) t), .int .i64 i, .int .i64 b] (.bool (dltB ss ls t i b)) := by
 have hln := lis_len ls
 have hn := w.n
 have he := ext_call ls[b] ls[i] (w.l _ (List.getElem_mem hb)).k (w.l _ (List.getElem_mem hi)).k
 have hu := current_call ls[i] t
 have h1 := lis_at ls i hi
 have h1b := lis_at ls b hb
 have h4 : (ls.flatMap Li.c)[b * 17 + 3]? = some (.int .i64 ls[b].this) := flat_get li_len ls b 3 hb (by omega)
 have h3 : ((ls.map (sgdB · ss)).map V.bool)[i]? = some (.bool (sgdB ls[i] ss)) := by simp [hi]
 have hfl : (ls.map (sgdB · ss)).length = ls.length := by simp
 have hF : ((ls.map (sgdB · ss)).map V.bool).length = ls.length := by simp
 have hi' : (i : Int) < ls.length := by omega
 have hr : dltB ss ls t i b = (sgdB ls[i] ss && extB ls[b] ls[i] && currentB ls[i] t && decide (ls[b].this ≤ t)) := by
  simp [dltB, gi_get ls i hi, gi_get ls b hb, hi]
 rw [hr]
 unfold jdC lisV flV
 rw [hfl]
 clear hr hfl
 generalize (ls.map (sgdB · ss)).map V.bool = F at *
 generalize sgdB ls[i] ss = r1 at *
 generalize extB ls[b] ls[i] = r2 at *
 generalize currentB ls[i] t = r3 at *
 generalize ls[i] = l at *
 generalize ls[b] = m at *
 generalize ls.flatMap Li.c = C at *
 rw [show l.c = [.str l.raw, .str l.tbs, nmV l.issuer, .int .i64 l.this, .int .i64 l.next, .int .i64 l.number, .int .i64 l.base, .str l.ak, .bool l.has, gnsV l.sc.names, .bool l.sc.ou, .bool l.sc.oc, .int .i64 l.sc.reasons, .bool l.sc.ind, ptsV l.fresh, ensV l.entries, .str l.sig] from rfl] at he hu h1
 rw [show m.c = [.str m.raw, .str m.tbs, nmV m.issuer, .int .i64 m.this, .int .i64 m.next, .int .i64 m.number, .int .i64 m.base, .str m.ak, .bool m.has, gnsV m.sc.names, .bool m.sc.ou, .bool m.sc.oc, .int .i64 m.sc.reasons, .bool m.sc.ind, ptsV m.fresh, ensV m.entries, .str m.sig] from rfl] at he h1b
 have h4 := (List.getElem?_eq_some_iff.1 h4).2
 have h3 := (List.getElem?_eq_some_iff.1 h3).2
 have hi2 : ¬ (ls.length : Int) ≤ i := by omega
 have hi3 : ¬ ls.length ≤ i := by omega
 cases r1
 ·refine pcall_body func73 rfl call73 ?_ ?_
  rotate_left 1
  refine awp_slots (s' := (.agg (V.str c.raw :: V.str c.tbs :: V.int .i64 c.serial :: [nmV c.issuer, nmV c.subject, .int .i64 c.nb, .int .i64 c.na, .int .i64 c.key.h, .str c.key.id, .str c.key.root, .bool c.info.basic, .bool c.info.ca, .int .i64 c.info.plen, .int .i64 c.info.usage, strV c.info.purposes, strV c.info.policies, mpsV c.info.maps, .int .i64 c.info.rexp, .int .i64 c.info.imap, .int .i64 c.info.iany, gnsV c.info.names, .bool c.info.hasC, gnsV c.info.cons.p, gnsV c.info.cons.x, .str c.info.sk, .str c.info.ak, ptsV c.info.points, ptsV c.info.fresh, exsV c.info.unk, .str c.sig, .sl ls.length C, .sl ls.length F, .int .i64 t]) : V) :: (.int .i64 i : V) :: (.int .i64 b : V) :: zJ 53) rfl ?_; dsimp only [zJ]
  ·repeat' (first | ((first | refine ZuD ?_ | (refine ZvD ?_ ?_; (focus (simp [h1, h1b, h3, h4, hln, hF, hi3]; done)))); intro K9 h9; simp (disch := first | exact dd | fail) [h1, h1b, h3, h4, hln, hF, hi3]; refine Zm ?_; refine ZfD h9 ?_; clear h9 K9) | refine ZtD ?_ | refine Y8 fun K hK => ?_ | (apply hK; clear hK K) | ((first | refine DU.Zk (ops := #[_, _, _, _, _, _, _, _, _, _, _, _, _, _, _, _, _, _, _, _, _, _, _, _, _, _, _, _, _, _, _, _, _]) 0 [0, 0, 0, 0, 0, 0, 0, 0, 0, 0, 1, 0, 0, 0, 0, 0, 0, 0, 0, 1, 0, 0, 0, 0, 0, 0, 0, 0, 0, 0, 0, 0, 0] ?_ | refine DU.Zk 0 [] ?_); refine Zl ?_) | (refine Yb rfl ?_ ?_ <;> intro hcnd <;> (try simp at hcnd) <;> try exact dc) | (refine ZnD ?_ ?_; (focus (simp [h1, h1b, h3, h4, hln, hF, hi3]; done)); refine ZsD ?_) | refine Zx ?_ | clear hK K)
   exact .pure .bool
  ·exact .bool
 cases r2
 ·refine pcall_body func73 rfl call73 ?_ ?_
  rotate_left 1
  refine awp_slots (s' := (.agg (V.str c.raw :: V.str c.tbs :: V.int .i64 c.serial :: [nmV c.issuer, nmV c.subject, .int .i64 c.nb, .int .i64 c.na, .int .i64 c.key.h, .str c.key.id, .str c.key.root, .bool c.info.basic, .bool c.info.ca, .int .i64 c.info.plen, .int .i64 c.info.usage, strV c.info.purposes, strV c.info.policies, mpsV c.info.maps, .int .i64 c.info.rexp, .int .i64 c.info.imap, .int .i64 c.info.iany, gnsV c.info.names, .bool c.info.hasC, gnsV c.info.cons.p, gnsV c.info.cons.x, .str c.info.sk, .str c.info.ak, ptsV c.info.points, ptsV c.info.fresh, exsV c.info.unk, .str c.sig, .sl ls.length C, .sl ls.length F, .int .i64 t]) : V) :: (.int .i64 i : V) :: (.int .i64 b : V) :: zJ 53) rfl ?_; dsimp only [zJ]
  ·repeat' (first | ((first | refine ZuD ?_ | (refine ZvD ?_ ?_; (focus (simp [h1, h1b, h3, h4, hln, hF, hi3]; done)))); intro K9 h9; simp (disch := first | exact dd | fail) [h1, h1b, h3, h4, hln, hF, hi3]; refine Zm ?_; ((first | refine Zc he ?_ | skip) <;> (refine ZfD h9 ?_; clear h9 K9))) | refine ZtD ?_ | refine Y8 fun K hK => ?_ | (apply hK; clear hK K) | ((first | refine DU.Zk (ops := #[_, _, _, _, _, _, _, _, _, _, _, _, _, _, _, _, _, _, _, _, _, _, _, _, _, _, _, _, _, _, _, _, _]) 0 [0, 0, 0, 0, 0, 0, 0, 0, 0, 0, 1, 0, 0, 0, 0, 0, 0, 0, 0, 1, 0, 0, 0, 0, 0, 0, 0, 0, 0, 0, 0, 0, 0] ?_ | refine DU.Zk 0 [] ?_); refine Zl ?_) | (refine Yb rfl ?_ ?_ <;> intro hcnd <;> (try simp at hcnd) <;> try exact dc) | (refine ZnD ?_ ?_; (focus (simp [h1, h1b, h3, h4, hln, hF, hi3]; done)); refine ZsD ?_) | refine Zx ?_ | clear hK K)
   exact .pure .bool
  ·exact .bool
 cases r3
 ·refine pcall_body func73 rfl call73 ?_ ?_
  rotate_left 1
  refine awp_slots (s' := (.agg (V.str c.raw :: V.str c.tbs :: V.int .i64 c.serial :: [nmV c.issuer, nmV c.subject, .int .i64 c.nb, .int .i64 c.na, .int .i64 c.key.h, .str c.key.id, .str c.key.root, .bool c.info.basic, .bool c.info.ca, .int .i64 c.info.plen, .int .i64 c.info.usage, strV c.info.purposes, strV c.info.policies, mpsV c.info.maps, .int .i64 c.info.rexp, .int .i64 c.info.imap, .int .i64 c.info.iany, gnsV c.info.names, .bool c.info.hasC, gnsV c.info.cons.p, gnsV c.info.cons.x, .str c.info.sk, .str c.info.ak, ptsV c.info.points, ptsV c.info.fresh, exsV c.info.unk, .str c.sig, .sl ls.length C, .sl ls.length F, .int .i64 t]) : V) :: (.int .i64 i : V) :: (.int .i64 b : V) :: zJ 53) rfl ?_; dsimp only [zJ]
  ·repeat' (first | ((first | refine ZuD ?_ | (refine ZvD ?_ ?_; (focus (simp [h1, h1b, h3, h4, hln, hF, hi3]; done)))); intro K9 h9; simp (disch := first | exact dd | fail) [h1, h1b, h3, h4, hln, hF, hi3]; refine Zm ?_; ((first | refine Zc he ?_ | refine Zc hu ?_ | skip) <;> (refine ZfD h9 ?_; clear h9 K9))) | refine ZtD ?_ | refine Y8 fun K hK => ?_ | (apply hK; clear hK K) | ((first | refine DU.Zk (ops := #[_, _, _, _, _, _, _, _, _, _, _, _, _, _, _, _, _, _, _, _, _, _, _, _, _, _, _, _, _, _, _, _, _]) 0 [0, 0, 0, 0, 0, 0, 0, 0, 0, 0, 1, 0, 0, 0, 0, 0, 0, 0, 0, 1, 0, 0, 0, 0, 0, 0, 0, 0, 0, 0, 0, 0, 0] ?_ | refine DU.Zk 0 [] ?_); refine Zl ?_) | (refine Yb rfl ?_ ?_ <;> intro hcnd <;> (try simp at hcnd) <;> try exact dc) | (refine ZnD ?_ ?_; (focus (simp [h1, h1b, h3, h4, hln, hF, hi3]; done)); refine ZsD ?_) | refine Zx ?_ | clear hK K)
   exact .pure .bool
  ·exact .bool
 by_cases h0 : m.this ≤ t
 ·rw [decide_eq_true h0]
  ·refine pcall_body func73 rfl call73 ?_ ?_
   rotate_left 1
   refine awp_slots (s' := (.agg (V.str c.raw :: V.str c.tbs :: V.int .i64 c.serial :: [nmV c.issuer, nmV c.subject, .int .i64 c.nb, .int .i64 c.na, .int .i64 c.key.h, .str c.key.id, .str c.key.root, .bool c.info.basic, .bool c.info.ca, .int .i64 c.info.plen, .int .i64 c.info.usage, strV c.info.purposes, strV c.info.policies, mpsV c.info.maps, .int .i64 c.info.rexp, .int .i64 c.info.imap, .int .i64 c.info.iany, gnsV c.info.names, .bool c.info.hasC, gnsV c.info.cons.p, gnsV c.info.cons.x, .str c.info.sk, .str c.info.ak, ptsV c.info.points, ptsV c.info.fresh, exsV c.info.unk, .str c.sig, .sl ls.length C, .sl ls.length F, .int .i64 t]) : V) :: (.int .i64 i : V) :: (.int .i64 b : V) :: zJ 53) rfl ?_; dsimp only [zJ]
   ·repeat' (first | ((first | refine ZuD ?_ | (refine ZvD ?_ ?_; (focus (simp [h1, h1b, h3, h4, hln, hF, hi3, h0]; done)))); intro K9 h9; simp (disch := first | exact dd | fail) [h1, h1b, h3, h4, hln, hF, hi3, h0]; refine Zm ?_; ((first | refine Zc he ?_ | refine Zc hu ?_ | skip) <;> (refine ZfD h9 ?_; clear h9 K9))) | refine ZtD ?_ | refine Y8 fun K hK => ?_ | (apply hK; clear hK K) | ((first | refine DU.Zk (ops := #[_, _, _, _, _, _, _, _, _, _, _, _, _, _, _, _, _, _, _, _, _, _, _, _, _, _, _, _, _, _, _, _, _]) 0 [0, 0, 0, 0, 0, 0, 0, 0, 0, 0, 1, 0, 0, 0, 0, 0, 0, 0, 0, 1, 0, 0, 0, 0, 0, 0, 0, 0, 0, 0, 0, 0, 0] ?_ | refine DU.Zk 0 [] ?_); refine Zl ?_) | (refine Yb rfl ?_ ?_ <;> intro hcnd <;> (try simp at hcnd) <;> try exact dc) | (refine ZnD ?_ ?_; (focus (simp [h1, h1b, h3, h4, hln, hF, hi3, h0]; done)); refine ZsD ?_) | refine Zx ?_ | clear hK K)
    exact .pure .bool
   ·exact .bool
 ·rw [decide_eq_false h0]
  ·refine pcall_body func73 rfl call73 ?_ ?_
   rotate_left 1
   refine awp_slots (s' := (.agg (V.str c.raw :: V.str c.tbs :: V.int .i64 c.serial :: [nmV c.issuer, nmV c.subject, .int .i64 c.nb, .int .i64 c.na, .int .i64 c.key.h, .str c.key.id, .str c.key.root, .bool c.info.basic, .bool c.info.ca, .int .i64 c.info.plen, .int .i64 c.info.usage, strV c.info.purposes, strV c.info.policies, mpsV c.info.maps, .int .i64 c.info.rexp, .int .i64 c.info.imap, .int .i64 c.info.iany, gnsV c.info.names, .bool c.info.hasC, gnsV c.info.cons.p, gnsV c.info.cons.x, .str c.info.sk, .str c.info.ak, ptsV c.info.points, ptsV c.info.fresh, exsV c.info.unk, .str c.sig, .sl ls.length C, .sl ls.length F, .int .i64 t]) : V) :: (.int .i64 i : V) :: (.int .i64 b : V) :: zJ 53) rfl ?_; dsimp only [zJ]
   ·repeat' (first | ((first | refine ZuD ?_ | (refine ZvD ?_ ?_; (focus (simp [h1, h1b, h3, h4, hln, hF, hi3, h0]; done)))); intro K9 h9; simp (disch := first | exact dd | fail) [h1, h1b, h3, h4, hln, hF, hi3, h0]; refine Zm ?_; ((first | refine Zc he ?_ | refine Zc hu ?_ | skip) <;> (refine ZfD h9 ?_; clear h9 K9))) | refine ZtD ?_ | refine Y8 fun K hK => ?_ | (apply hK; clear hK K) | ((first | refine DU.Zk (ops := #[_, _, _, _, _, _, _, _, _, _, _, _, _, _, _, _, _, _, _, _, _, _, _, _, _, _, _, _, _, _, _, _, _]) 0 [0, 0, 0, 0, 0, 0, 0, 0, 0, 0, 1, 0, 0, 0, 0, 0, 0, 0, 0, 1, 0, 0, 0, 0, 0, 0, 0, 0, 0, 0, 0, 0, 0] ?_ | refine DU.Zk 0 [] ?_); refine Zl ?_) | (refine Yb rfl ?_ ?_ <;> intro hcnd <;> (try simp at hcnd) <;> try exact dc) | (refine ZnD ?_ ?_; (focus (simp [h1, h1b, h3, h4, hln, hF, hi3, h0]; done)); refine ZsD ?_) | refine Zx ?_ | clear hK K)
    exact .pure .bool
   ·exact .bool
end Go.Proofs.YtnpndfmbkmbhbaaGreatDoor
namespace Go.Proofs.YtnpndfmbkmbhbaaGreatDoor
open Go.Proofs.Tryz
open Go.VS Go.Stp Go.Sta
attribute [local irreducible] arun arunD arunU AWp aend verE DU.arunD
attribute [local simp] DU.gval
theorem jus_call (c : Ce) (ss : List An) (ls : List Li) (t : Int) (w : WWo c ls) (i : Nat) (hi : i < ls.length) (k : Int) (hk : okK ls k) : PCall prog 40 [.agg (jdC c ls (ls.map (sgdB · ss)) t), .agg [.int .i64 i, .int .i64 k]] (.bool (usB c ss ls t (i, k))) := by
 have hln := lis_len ls
 have hn := w.n
 have hc := jcmp_call c ss ls t w i hi
 have hu := current_call ls[i] t
 have h1 := lis_at ls i hi
 have hdl := fun b (hb : b < ls.length) => jdlt_call c ss ls t w b i hb hi
 have hfl : (ls.map (sgdB · ss)).length = ls.length := by simp
 have hF : ((ls.map (sgdB · ss)).map V.bool).length = ls.length := by simp
 have hr1 : cmpB c ss ls i = true → usB c ss ls t (i, -1) = currentB ls[i] t := fun h => by simp [usB, h, gi_get ls i hi]
 have hr2 : ∀ k : Int, cmpB c ss ls i = false → usB c ss ls t (i, k) = false := fun k h => by simp [usB, h]
 have hr3 : ∀ q : Nat, cmpB c ss ls i = true → usB c ss ls t (i, (q : Int)) = dltB ss ls t q i := fun q h => by
  have : ¬ (q : Int) = -1 := by omega
  simp [usB, h, this]
 unfold jdC lisV flV at *
 simp only [hfl] at hc hdl ⊢
 generalize (ls.map (sgdB · ss)).map V.bool = F at *
 generalize ls[i] = l at *
 generalize ls.flatMap Li.c = C at *
 rw [show l.c = [.str l.raw, .str l.tbs, nmV l.issuer, .int .i64 l.this, .int .i64 l.next, .int .i64 l.number, .int .i64 l.base, .str l.ak, .bool l.has, gnsV l.sc.names, .bool l.sc.ou, .bool l.sc.oc, .int .i64 l.sc.reasons, .bool l.sc.ind, ptsV l.fresh, ensV l.entries, .str l.sig] from rfl] at hu h1
 cases hcb : cmpB c ss ls i
 ·rw [hcb] at hc
  rw [hr2 k hcb]
  ·refine pcall_body func40 rfl call40 ?_ ?_
   rotate_left 1
   refine awp_slots (s' := (.agg (V.str c.raw :: V.str c.tbs :: V.int .i64 c.serial :: [nmV c.issuer, nmV c.subject, .int .i64 c.nb, .int .i64 c.na, .int .i64 c.key.h, .str c.key.id, .str c.key.root, .bool c.info.basic, .bool c.info.ca, .int .i64 c.info.plen, .int .i64 c.info.usage, strV c.info.purposes, strV c.info.policies, mpsV c.info.maps, .int .i64 c.info.rexp, .int .i64 c.info.imap, .int .i64 c.info.iany, gnsV c.info.names, .bool c.info.hasC, gnsV c.info.cons.p, gnsV c.info.cons.x, .str c.info.sk, .str c.info.ak, ptsV c.info.points, ptsV c.info.fresh, exsV c.info.unk, .str c.sig, .sl ls.length C, .sl ls.length F, .int .i64 t]) : V) :: (.agg [.int .i64 i, .int .i64 k] : V) :: zJ 26) rfl ?_; dsimp only [zJ]
   ·repeat' (first | (refine Zu ?_; intro K9 h9; simp (disch := first | exact dd | fail) [hln, hF]; refine Zm ?_; ((first | refine Zc hc ?_ | skip) <;> (refine Zf h9 ?_; clear h9 K9))) | refine Zt ?_ | refine Y8 fun K hK => ?_ | (apply hK; clear hK K) | ((first | refine Zk (ops := #[_, _, _, _, _, _, _, _, _, _]) 0 [0, 0, 0, 0, 0, 0, 0, 0, 1, 0] ?_ | refine Zk 0 [] ?_); refine Zl ?_) | (refine Yb rfl ?_ ?_ <;> intro hcnd <;> (try simp at hcnd) <;> try exact dc) | refine Zx ?_ | clear hK K)
    exact .pure .bool
   ·exact .bool
 rw [hcb] at hc
 rcases hk with rfl | ⟨q, hq, rfl⟩
 ·rw [hr1 hcb]
  generalize currentB l t = r at *
  ·refine pcall_body func40 rfl call40 ?_ ?_
   rotate_left 1
   refine awp_slots (s' := (.agg (V.str c.raw :: V.str c.tbs :: V.int .i64 c.serial :: [nmV c.issuer, nmV c.subject, .int .i64 c.nb, .int .i64 c.na, .int .i64 c.key.h, .str c.key.id, .str c.key.root, .bool c.info.basic, .bool c.info.ca, .int .i64 c.info.plen, .int .i64 c.info.usage, strV c.info.purposes, strV c.info.policies, mpsV c.info.maps, .int .i64 c.info.rexp, .int .i64 c.info.imap, .int .i64 c.info.iany, gnsV c.info.names, .bool c.info.hasC, gnsV c.info.cons.p, gnsV c.info.cons.x, .str c.info.sk, .str c.info.ak, ptsV c.info.points, ptsV c.info.fresh, exsV c.info.unk, .str c.sig, .sl ls.length C, .sl ls.length F, .int .i64 t]) : V) :: (.agg [.int .i64 i, .int .i64 (-1)] : V) :: zJ 26) rfl ?_; dsimp only [zJ]
   ·repeat' (first | (refine Zu ?_; intro K9 h9; simp (disch := first | exact dd | fail) [h1, hln, hF]; refine Zm ?_; ((first | refine Zc hc ?_ | refine Zc hu ?_ | skip) <;> (refine Zf h9 ?_; clear h9 K9))) | refine Zt ?_ | refine Y8 fun K hK => ?_ | (apply hK; clear hK K) | ((first | refine Zk (ops := #[_, _, _, _, _, _, _, _, _, _]) 0 [0, 0, 0, 0, 0, 0, 0, 0, 1, 0] ?_ | refine Zk 0 [] ?_); refine Zl ?_) | (refine Yb rfl ?_ ?_ <;> intro hcnd <;> (try simp at hcnd) <;> try exact dc) | refine Zx ?_ | clear hK K)
    exact .pure .bool
   ·exact .bool
 ·rw [hr3 q hcb]
  have hd := hdl q hq
  generalize dltB ss ls t q i = r at *
  have hq1 : ¬ (q : Int) = -1 := by omega
  ·refine pcall_body func40 rfl call40 ?_ ?_
   rotate_left 1
   refine awp_slots (s' := (.agg (V.str c.raw :: V.str c.tbs :: V.int .i64 c.serial :: [nmV c.issuer, nmV c.subject, .int .i64 c.nb, .int .i64 c.na, .int .i64 c.key.h, .str c.key.id, .str c.key.root, .bool c.info.basic, .bool c.info.ca, .int .i64 c.info.plen, .int .i64 c.info.usage, strV c.info.purposes, strV c.info.policies, mpsV c.info.maps, .int .i64 c.info.rexp, .int .i64 c.info.imap, .int .i64 c.info.iany, gnsV c.info.names, .bool c.info.hasC, gnsV c.info.cons.p, gnsV c.info.cons.x, .str c.info.sk, .str c.info.ak, ptsV c.info.points, ptsV c.info.fresh, exsV c.info.unk, .str c.sig, .sl ls.length C, .sl ls.length F, .int .i64 t]) : V) :: (.agg [.int .i64 i, .int .i64 q] : V) :: zJ 26) rfl ?_; dsimp only [zJ]
   ·repeat' (first | (refine Zu ?_; intro K9 h9; simp (disch := first | exact dd | fail) [h1, hln, hF, hq1]; refine Zm ?_; ((first | refine Zc hc ?_ | refine Zc hd ?_ | skip) <;> (refine Zf h9 ?_; clear h9 K9))) | refine Zt ?_ | refine Y8 fun K hK => ?_ | (apply hK; clear hK K) | ((first | refine Zk (ops := #[_, _, _, _, _, _, _, _, _, _]) 0 [0, 0, 0, 0, 0, 0, 0, 0, 1, 0] ?_ | refine Zk 0 [] ?_); refine Zl ?_) | (refine Yb rfl ?_ ?_ <;> intro hcnd <;> (try simp at hcnd) <;> try exact dc) | refine Zx ?_ | clear hK K)
    exact .pure .bool
   ·exact .bool
end Go.Proofs.YtnpndfmbkmbhbaaGreatDoor
