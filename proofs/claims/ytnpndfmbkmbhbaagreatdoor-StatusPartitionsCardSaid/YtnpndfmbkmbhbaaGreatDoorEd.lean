/-
 STATUS: decisive proofs.
 Conditions: none.
-/
import Derived.Test.YtnpndfmbkmbhbaaGreatDoorE9
set_option maxRecDepth 100000
set_option maxHeartbeats 32000000
set_option linter.all false
namespace Go.Proofs.YtnpndfmbkmbhbaaGreatDoor
open Go.Proofs.Tryz
open Go.VS Go.Stp Go.Sta
attribute [local irreducible] arun arunD arunU AWp aend verE DU.arunD
attribute [local simp] DU.gval
theorem evid_call (c : Ce) (ss : List An) (ls : List Li) (t : Int) (w : WWo c ls) (hs : ss.length ≤ 65536) (hsw : ∀ s ∈ ss, WAn s) (hsz : ls.length ≤ 1000) : PCall prog 15 [.agg c.c, ansV ss, lisV ls, .int .i64 t] (prV (evid c ss ls t)) := by
 have hn := w.n
 have hln := lis_len ls
 have hat := lis_at ls
 have hnj := newJ_call c ss ls t w hs hsw
 have hpr := jproofs_call c ss ls t w hsz
 have hnum : ∀ p : Int × Int, okP ls p → PCall prog 26 [.agg (jdC c ls (ls.map (sgdB · ss)) t), .agg [.int .i64 p.1, .int .i64 p.2]] (.int .i64 (nmr ls p)) := fun p hp => by
  obtain ⟨⟨i, hi, e⟩, hk⟩ := hp
  have := jnum_call c ls (ls.map (sgdB · ss)) t hn i hi p.2 hk
  rw [← e] at this
  exact this
 have hser := fun a b (ha : a < ls.length) (hb : b < ls.length) => jser_call ls[a] ls[b] (w.l _ (List.getElem_mem ha)) (w.l _ (List.getElem_mem hb))
 have hok := prfs_ok (c := c) (ss := ss) (ls := ls) (t := t) ls.length (Nat.le_refl _)
 have hfl : (ls.map (sgdB · ss)).length = ls.length := by simp
 have hle : (prfs c ss ls t ls.length).length ≤ 2000000 := by
  have h1 := prfs_le c ss ls t ls.length
  have : ls.length * (ls.length + 1) ≤ 1000 * 1001 := Nat.mul_le_mul (by omega) (by omega)
  omega
 rw [← evS_full]
 unfold jdC lisV flV at *
 simp only [hfl] at hnj hpr hnum
 clear hfl
 rw [Ce.c.eq_1] at hnj ⊢
 generalize (ls.map (sgdB · ss)).map V.bool = F at *
 generalize ls.flatMap Li.c = C at *
 generalize prfs c ss ls t ls.length = all at *
 have hpl := pr_len all
 have hpat := pr_at all
 unfold prV at *
 refine pcall_body func15 rfl call15 ?_ ?_
 rotate_left 1
 refine awp_slots (s' := (.agg [.str c.raw, .str c.tbs, .int .i64 c.serial, nmV c.issuer, nmV c.subject, .int .i64 c.nb, .int .i64 c.na, .int .i64 c.key.h, .str c.key.id, .str c.key.root, .bool c.info.basic, .bool c.info.ca, .int .i64 c.info.plen, .int .i64 c.info.usage, strV c.info.purposes, strV c.info.policies, mpsV c.info.maps, .int .i64 c.info.rexp, .int .i64 c.info.imap, .int .i64 c.info.iany, gnsV c.info.names, .bool c.info.hasC, gnsV c.info.cons.p, gnsV c.info.cons.x, .str c.info.sk, .str c.info.ak, ptsV c.info.points, ptsV c.info.fresh, exsV c.info.unk, .str c.sig] : V) :: (ansV ss : V) :: (.sl ls.length C : V) :: (.int .i64 t : V) :: zJ 58) rfl ?_; dsimp only [zJ]
 ·repeat' (first | ((first | refine Zu ?_ | (refine Zv ?_ ?_; (focus (simp; done)))); intro K9 h9; refine Zd ?_; ((first | refine Ap hnj ?_ | refine Ap hpr ?_ | skip) <;> (refine Zf h9 ?_; clear h9 K9))) | refine Zt ?_ | refine Y8 fun K hK => ?_ | (apply hK; clear hK K) | (refine Zk 0 [] ?_; refine Zl ?_) | (refine Yb rfl ?_ ?_ <;> intro hcnd <;> (try simp at hcnd) <;> try exact dc) | refine awp_scope_end ?_ | refine awp_label ?_ | refine Zo ?_ | refine Zx ?_ | clear hK K)
  refine awp_countU (fun i => (zS 2 (none :: zS 2 (zN 3 (some V.junk :: zN 2 (some (V.osl 2 0 (evS ls all i).length 2) :: none :: some V.junk :: none :: zS 8 (zN 2 (some (V.int .i64 i) :: zS 36 [])))))))) (fun i => [.live [.str c.raw, .str c.tbs, .int .i64 c.serial, nmV c.issuer, nmV c.subject, .int .i64 c.nb, .int .i64 c.na, .int .i64 c.key.h, .str c.key.id, .str c.key.root, .bool c.info.basic, .bool c.info.ca, .int .i64 c.info.plen, .int .i64 c.info.usage, strV c.info.purposes, strV c.info.policies, mpsV c.info.maps, .int .i64 c.info.rexp, .int .i64 c.info.imap, .int .i64 c.info.iany, gnsV c.info.names, .bool c.info.hasC, gnsV c.info.cons.p, gnsV c.info.cons.x, .str c.info.sk, .str c.info.ak, ptsV c.info.points, ptsV c.info.fresh, exsV c.info.unk, .str c.sig], .live (V.str c.raw :: V.str c.tbs :: V.int .i64 c.serial :: [nmV c.issuer, nmV c.subject, .int .i64 c.nb, .int .i64 c.na, .int .i64 c.key.h, .str c.key.id, .str c.key.root, .bool c.info.basic, .bool c.info.ca, .int .i64 c.info.plen, .int .i64 c.info.usage, strV c.info.purposes, strV c.info.policies, mpsV c.info.maps, .int .i64 c.info.rexp, .int .i64 c.info.imap, .int .i64 c.info.iany, gnsV c.info.names, .bool c.info.hasC, gnsV c.info.cons.p, gnsV c.info.cons.x, .str c.info.sk, .str c.info.ak, ptsV c.info.points, ptsV c.info.fresh, exsV c.info.unk, .str c.sig, .sl ls.length C, .sl ls.length F, .int .i64 t]), .live ((evS ls all i).flatMap prC)]) all.length ?_ fun i hi KL hL => ?_
  ·dsimp only [ups, zN, zS]
   exact Le.mk [some 0, some 1, none] (by simp [evS]) (rowsRen_of (by simp) (by simp [rowsOver, rowRen_live, rens_pures, evS])) (by simp)
  dsimp only [ups, zN, zS]
  have hpe := pr_pures (evS ls all i)
  have hel := pr_len (evS ls all i)
  have hel2 := evS_le ls all i
  rcases Nat.lt_or_ge i all.length with hi | hi
  ·have ha := hpat i hi
   have hsu := evS_succ ls all i hi
   have hpo := hok _ (List.getElem_mem hi)
   have hlF : (∀ j (h : j < all.length), losB ls all[i] all[j] = false) → lost ls all all[i] = false := fun h => any_false h
   have hlT : ∀ j (h : j < all.length), losB ls all[i] all[j] = true → lost ls all all[i] = true := fun j hj h => any_true hj h
   obtain ⟨p, hp⟩ : ∃ p, all[i] = p := ⟨_, rfl⟩
   rw [hp] at ha hsu hpo hlF hlT
   obtain ⟨p1, p2⟩ := p
   have hn1 := hnum _ hpo
   obtain ⟨⟨a, ha1, ha2⟩, hkp⟩ := hpo
   dsimp only at ha2 ha
   subst ha2
   repeat' (first | ((first | refine Zu ?_ | (refine Zv ?_ ?_; (focus (simp [ha, hpl]; done)))); intro K9 h9; simp (disch := first | exact dd | fail) [ha, hpl]; refine Zm ?_; refine Zf h9 ?_; clear h9 K9) | refine Zt ?_ | refine Y8 fun K hK => ?_ | (apply hK; clear hK K) | (refine Zk 0 [] ?_; refine Zl ?_) | (refine Yb rfl ?_ ?_ <;> intro hcnd <;> (try simp at hcnd) <;> try exact dc) | refine awp_scope_end ?_ | refine awp_label ?_ | (refine Zn ?_ ?_; (focus (simp [ha, hpl]; done)); refine Zs ?_) | refine Zx ?_ | clear hK K)
   refine awp_loopU (α := Nat) (fun q => (zS 2 (none :: zS 2 (zN 3 (some V.junk :: zN 6 (zS 8 (zN 3 (zS 3 (zN 2 (some (V.int .i64 q) :: zS 30 [])))))))))) (fun q => [.live [.str c.raw, .str c.tbs, .int .i64 c.serial, nmV c.issuer, nmV c.subject, .int .i64 c.nb, .int .i64 c.na, .int .i64 c.key.h, .str c.key.id, .str c.key.root, .bool c.info.basic, .bool c.info.ca, .int .i64 c.info.plen, .int .i64 c.info.usage, strV c.info.purposes, strV c.info.policies, mpsV c.info.maps, .int .i64 c.info.rexp, .int .i64 c.info.imap, .int .i64 c.info.iany, gnsV c.info.names, .bool c.info.hasC, gnsV c.info.cons.p, gnsV c.info.cons.x, .str c.info.sk, .str c.info.ak, ptsV c.info.points, ptsV c.info.fresh, exsV c.info.unk, .str c.sig], .live (V.str c.raw :: V.str c.tbs :: V.int .i64 c.serial :: [nmV c.issuer, nmV c.subject, .int .i64 c.nb, .int .i64 c.na, .int .i64 c.key.h, .str c.key.id, .str c.key.root, .bool c.info.basic, .bool c.info.ca, .int .i64 c.info.plen, .int .i64 c.info.usage, strV c.info.purposes, strV c.info.policies, mpsV c.info.maps, .int .i64 c.info.rexp, .int .i64 c.info.imap, .int .i64 c.info.iany, gnsV c.info.names, .bool c.info.hasC, gnsV c.info.cons.p, gnsV c.info.cons.x, .str c.info.sk, .str c.info.ak, ptsV c.info.points, ptsV c.info.fresh, exsV c.info.unk, .str c.sig, .sl ls.length C, .sl ls.length F, .int .i64 t]), .live ((evS ls all i).flatMap prC), .live [.int .i64 a, .int .i64 p2]]) (fun q => q ≤ all.length ∧ ∀ j (h : j < all.length), j < q → losB ls ((a : Int), p2) all[j] = false) (fun q => all.length - q) 0 ⟨by omega, fun j _ h => by omega⟩ ?_ ?_
   ·dsimp only [ups, zN, zS]
    exact Yr [some 0, some 1, some 2, some 3] (by simp [rowsOver, rowRen_live, rens_pures, hpe])
   rintro q ⟨hq, hall⟩ KM hM
   dsimp only [ups, zN, zS]
   rcases Nat.lt_or_ge q all.length with hq | hq
   ·have hb := hpat q hq
    have hqo := hok _ (List.getElem_mem hq)
    have hT := hlT q hq
    have hstep : losB ls ((a : Int), p2) all[q] = false → q + 1 ≤ all.length ∧ ∀ j (h : j < all.length), j < q + 1 → losB ls ((a : Int), p2) all[j] = false := fun hb => ⟨by omega, fun j hj h => by
     rcases Nat.lt_or_ge j q with h3 | h3
     ·exact hall j hj h3
     ·obtain rfl : j = q := by omega
      exact hb⟩
    obtain ⟨r, hr⟩ : ∃ r, all[q] = r := ⟨_, rfl⟩
    rw [hr] at hb hqo hT hstep
    obtain ⟨r1, r2⟩ := r
    have hn2 := hnum _ hqo
    obtain ⟨⟨b, hb1, hb2⟩, hkr⟩ := hqo
    dsimp only at hb2 hb
    subst hb2
    have hsr := hser a b ha1 hb1
    have h1a := hat a ha1
    have h1b := hat b hb1
    have hlos : losB ls ((a : Int), p2) ((b : Int), r2) = (decide (nmr ls ((a : Int), p2) < nmr ls ((b : Int), r2)) && serB ls[a] ls[b]) := by
     simp [losB, gi_get ls a ha1, gi_get ls b hb1]
    rw [hlos] at hT hstep
    dsimp only at hn1 hn2
    generalize nmr ls ((a : Int), p2) = m1 at *
    generalize nmr ls ((b : Int), r2) = m2 at *
    generalize serB ls[a] ls[b] = s at *
    obtain ⟨x, hx⟩ : ∃ x, ls[a] = x := ⟨_, rfl⟩
    obtain ⟨y, hy⟩ : ∃ y, ls[b] = y := ⟨_, rfl⟩
    rw [hx] at hsr h1a
    rw [hy] at hsr h1b
    rw [show x.c = [.str x.raw, .str x.tbs, nmV x.issuer, .int .i64 x.this, .int .i64 x.next, .int .i64 x.number, .int .i64 x.base, .str x.ak, .bool x.has, gnsV x.sc.names, .bool x.sc.ou, .bool x.sc.oc, .int .i64 x.sc.reasons, .bool x.sc.ind, ptsV x.fresh, ensV x.entries, .str x.sig] from rfl] at hsr h1a
    rw [show y.c = [.str y.raw, .str y.tbs, nmV y.issuer, .int .i64 y.this, .int .i64 y.next, .int .i64 y.number, .int .i64 y.base, .str y.ak, .bool y.has, gnsV y.sc.names, .bool y.sc.ou, .bool y.sc.oc, .int .i64 y.sc.reasons, .bool y.sc.ind, ptsV y.fresh, ensV y.entries, .str y.sig] from rfl] at hsr h1b
    by_cases hlt : m1 < m2
    ·cases s
     ·repeat' (first | ((first | refine ZuD ?_ | (refine ZvD ?_ ?_; (focus (simp [hb, hpl, h1a, h1b, hlt, hln]; done)))); intro K9 h9; simp (disch := first | exact dd | fail) [hb, hpl, h1a, h1b, hlt, hln]; refine Zm ?_; ((first | refine Zc hn1 ?_ | refine Zc hn2 ?_ | refine Zc hsr ?_ | skip) <;> (refine ZfD h9 ?_; clear h9 K9))) | refine ZtD ?_ | refine Y8 fun K hK => ?_ | (apply hK; clear hK K) | ((first | refine DU.Zk (ops := #[_, _, _, _, _, _, _, _, _, _, _, _, _, _, _, _, _, _, _, _]) 0 [0, 0, 1, 0, 0, 1, 0, 0, 0, 0, 0, 0, 0, 0, 0, 0, 0, 0, 1, 0] ?_ | refine DU.Zk 0 [] ?_); refine Zl ?_) | (refine Yb rfl ?_ ?_ <;> intro hcnd <;> (try simp at hcnd) <;> try exact dc) | refine awp_scope_end ?_ | refine awp_label ?_ | (refine ZnD ?_ ?_; (focus (simp [hb, hpl, h1a, h1b, hlt, hln]; done)); refine ZsD ?_) | refine Zx ?_ | clear hK K)
      refine hM (q + 1) _ _ (hstep (by simp)) (by omega) ?_
      exact Yr [some 0, some 1, some 2, some 3] (by simp [rowsOver, rowRen_live, rens_pures, hpe])
     ·rw [hT (by simp [hlt])] at hsu
      simp only [if_true, List.append_nil] at hsu
      repeat' (first | ((first | refine ZuD ?_ | (refine ZvD ?_ ?_; (focus (simp [hb, hpl, h1a, h1b, hlt, hln]; done)))); intro K9 h9; simp (disch := first | exact dd | fail) [hb, hpl, h1a, h1b, hlt, hln]; refine Zm ?_; ((first | refine Zc hn1 ?_ | refine Zc hn2 ?_ | refine Zc hsr ?_ | skip) <;> (refine ZfD h9 ?_; clear h9 K9))) | refine ZtD ?_ | refine Y8 fun K hK => ?_ | (apply hK; clear hK K) | ((first | refine DU.Zk (ops := #[_, _, _, _, _, _, _, _, _, _, _, _, _, _, _, _, _, _, _, _]) 0 [0, 0, 1, 0, 0, 1, 0, 0, 0, 0, 0, 0, 0, 0, 0, 0, 0, 0, 1, 0] ?_ | refine DU.Zk 0 [] ?_); refine Zl ?_) | (refine Yb rfl ?_ ?_ <;> intro hcnd <;> (try simp at hcnd) <;> try exact dc) | refine awp_scope_end ?_ | refine awp_label ?_ | (refine ZnD ?_ ?_; (focus (simp [hb, hpl, h1a, h1b, hlt, hln]; done)); refine ZsD ?_) | refine Zx ?_ | clear hK K)
      refine hL _ _ hi ?_
      rw [hsu]
      exact Yr [some 0, some 1, some 2] (by simp [rowsOver, rowRen_live, rens_pures, hpe])
    ·repeat' (first | ((first | refine ZuD ?_ | (refine ZvD ?_ ?_; (focus (simp [hb, hpl, h1a, h1b, hlt, hln]; done)))); intro K9 h9; simp (disch := first | exact dd | fail) [hb, hpl, h1a, h1b, hlt, hln]; refine Zm ?_; ((first | refine Zc hn1 ?_ | refine Zc hn2 ?_ | refine Zc hsr ?_ | skip) <;> (refine ZfD h9 ?_; clear h9 K9))) | refine ZtD ?_ | refine Y8 fun K hK => ?_ | (apply hK; clear hK K) | ((first | refine DU.Zk (ops := #[_, _, _, _, _, _, _, _, _, _, _, _, _, _, _, _, _, _, _, _]) 0 [0, 0, 1, 0, 0, 1, 0, 0, 0, 0, 0, 0, 0, 0, 0, 0, 0, 0, 1, 0] ?_ | refine DU.Zk 0 [] ?_); refine Zl ?_) | (refine Yb rfl ?_ ?_ <;> intro hcnd <;> (try simp at hcnd) <;> try exact dc) | refine awp_scope_end ?_ | refine awp_label ?_ | (refine ZnD ?_ ?_; (focus (simp [hb, hpl, h1a, h1b, hlt, hln]; done)); refine ZsD ?_) | refine Zx ?_ | clear hK K)
     refine hM (q + 1) _ _ (hstep (by simp [hlt])) (by omega) ?_
     exact Yr [some 0, some 1, some 2, some 3] (by simp [rowsOver, rowRen_live, rens_pures, hpe])
   ·rw [hlF fun j hj => hall j hj (by omega)] at hsu
    simp only [Bool.false_eq_true, if_false] at hsu
    rw [hsu] at hL
    generalize evS ls all i = Q at *
    have htk : List.take (Q.length * 2) (Q.flatMap prC) = Q.flatMap prC := List.take_of_length_le (by omega)
    have hfm : (Q ++ [((a : Int), p2)]).flatMap prC = Q.flatMap prC ++ [.int .i64 a, .int .i64 p2] := by simp [prC]
    rw [hfm] at hL
    clear hfm
    generalize Q.flatMap prC = C2 at *
    repeat' (first | ((first | refine Zu ?_ | (refine Zv ?_ ?_; (focus (simp [hel, htk]; done)))); intro K9 h9; simp (disch := first | exact dd | fail) [hel, htk]; refine Zm ?_; refine Zf h9 ?_; clear h9 K9) | refine Zt ?_ | refine Y8 fun K hK => ?_ | (apply hK; clear hK K) | (refine Zk 0 [] ?_; refine Zl ?_) | (refine Yb rfl ?_ ?_ <;> intro hcnd <;> (try simp at hcnd) <;> try exact dc) | refine awp_scope_end ?_ | refine awp_label ?_ | (refine Zn ?_ ?_; (focus (simp [hel, htk]; done)); refine Zs ?_) | refine Zx ?_ | clear hK K)
    refine hL _ _ hi ?_
    have hp3 : Pures (C2 ++ [.int .i64 a, .int .i64 p2]) := by simp [hpe]
    exact Yr [some 0, some 1, some 5] (by simp [rowsOver, rowRen_live, rens_pures, hp3])
  ·obtain rfl : i = all.length := by omega
   repeat' (first | refine Zr ?_ | refine Zt ?_ | refine Y8 fun K hK => ?_ | (apply hK; clear hK K) | (refine Zk 0 [] ?_; refine Zl ?_) | (refine Yb rfl ?_ ?_ <;> intro hcnd <;> (try simp at hcnd) <;> try exact dc) | refine awp_scope_end ?_ | refine awp_label ?_ | refine Zo ?_ | refine Zx ?_ | clear hK K)
   exact view_row rfl (by omega) hpe
 ·exact .sl
end Go.Proofs.YtnpndfmbkmbhbaaGreatDoor
namespace Go.Proofs.YtnpndfmbkmbhbaaGreatDoor
open Go.Proofs.Tryz
open Go.VS Go.Stp Go.Sta
attribute [local irreducible] arun arunD arunU AWp aend verE DU.arunD
attribute [local simp] DU.gval
theorem of_call (c : Ce) (ss : List An) (ls : List Li) (t : Int) (w : WWo c ls) (hs : ss.length ≤ 65536) (hsw : ∀ s ∈ ss, WAn s) (hsz : ls.length ≤ 1000) : PCall prog 13 [.agg c.c, ansV ss, lisV ls, .int .i64 t] (.int .i64 (ofB c ss ls t)) := by
 have hn := w.n
 have hln := lis_len ls
 have hat := lis_at ls
 have hev := evid_call c ss ls t w hs hsw hsz
 have hvd := fun i hi k hk => verdict_call c ls w i hi k hk
 have hmk := fun l (h : l ∈ ls) => wmask_call w h
 have hok : ∀ p ∈ evid c ss ls t, okP ls p := fun p hp => prfs_ok ls.length (Nat.le_refl _) p (List.mem_filter.1 (by unfold evid at hp; exact hp)).1
 have hel : (evid c ss ls t).length ≤ 2000000 := by
  have h1 := prfs_le c ss ls t ls.length
  have : ls.length * (ls.length + 1) ≤ 1000 * 1001 := Nat.mul_le_mul (by omega) (by omega)
  have h2 : (evid c ss ls t).length ≤ (prfs c ss ls t ls.length).length := by unfold evid; exact List.length_filter_le _ _
  omega
 unfold ofB
 generalize evid c ss ls t = ev at *
 have hR : ofF c ls (ev.drop 0) 0 false = ofF c ls ev 0 false := by rw [List.drop_zero]
 generalize ofF c ls ev 0 false = R at *
 have hpl := pr_len ev
 have hpat := pr_at ev
 unfold lisV prV at *
 simp only [Ce.c.eq_1] at hev hvd hmk ⊢
 generalize ls.flatMap Li.c = C at *
 refine pcall_body func13 rfl call13 ?_ ?_
 rotate_left 1
 refine awp_slots (s' := (.agg [.str c.raw, .str c.tbs, .int .i64 c.serial, nmV c.issuer, nmV c.subject, .int .i64 c.nb, .int .i64 c.na, .int .i64 c.key.h, .str c.key.id, .str c.key.root, .bool c.info.basic, .bool c.info.ca, .int .i64 c.info.plen, .int .i64 c.info.usage, strV c.info.purposes, strV c.info.policies, mpsV c.info.maps, .int .i64 c.info.rexp, .int .i64 c.info.imap, .int .i64 c.info.iany, gnsV c.info.names, .bool c.info.hasC, gnsV c.info.cons.p, gnsV c.info.cons.x, .str c.info.sk, .str c.info.ak, ptsV c.info.points, ptsV c.info.fresh, exsV c.info.unk, .str c.sig] : V) :: (ansV ss : V) :: (.sl ls.length C : V) :: (.int .i64 t : V) :: zJ 43) rfl ?_; dsimp only [zJ]
 ·repeat' (first | (refine Zu ?_; intro K9 h9; refine Zd ?_; ((first | refine Ap hev ?_ | skip) <;> (refine Zf h9 ?_; clear h9 K9))) | refine Zt ?_ | refine Y8 fun K hK => ?_ | (apply hK; clear hK K) | (refine Zk 0 [] ?_; refine Zl ?_) | (refine Yb rfl ?_ ?_ <;> intro hcnd <;> (try simp at hcnd) <;> try exact dc) | refine Zx ?_ | clear hK K)
  refine awp_loopU (α := Nat × Int × Bool) (fun x => (zS 2 (none :: some V.junk :: zN 4 (some V.junk :: some (V.int .i64 x.2.1) :: some (V.bool x.2.2) :: none :: zS 5 (zN 2 (some (V.int .i64 x.1) :: zS 27 [])))))) (fun x => [.live [.str c.raw, .str c.tbs, .int .i64 c.serial, nmV c.issuer, nmV c.subject, .int .i64 c.nb, .int .i64 c.na, .int .i64 c.key.h, .str c.key.id, .str c.key.root, .bool c.info.basic, .bool c.info.ca, .int .i64 c.info.plen, .int .i64 c.info.usage, strV c.info.purposes, strV c.info.policies, mpsV c.info.maps, .int .i64 c.info.rexp, .int .i64 c.info.imap, .int .i64 c.info.iany, gnsV c.info.names, .bool c.info.hasC, gnsV c.info.cons.p, gnsV c.info.cons.x, .str c.info.sk, .str c.info.ak, ptsV c.info.points, ptsV c.info.fresh, exsV c.info.unk, .str c.sig]]) (fun x => x.1 ≤ ev.length ∧ ofF c ls (ev.drop x.1) x.2.1 x.2.2 = R) (fun x => ev.length - x.1) (0, 0, false) ⟨by simp, hR⟩ ?_ ?_
  ·dsimp only [ups, zN, zS]
   exact Yr [some 0] (by simp [rowsOver, rowRen_live, rens_pures])
  rintro ⟨i, m, h⟩ ⟨hi, hof⟩ KL hL
  dsimp only at hi hof
  dsimp only [ups, zN, zS]
  rcases Nat.lt_or_ge i ev.length with hi | hi
  ·have hb := hpat i hi
   have hpo := hok _ (List.getElem_mem hi)
   rw [List.drop_eq_getElem_cons hi] at hof
   obtain ⟨p, hp⟩ : ∃ p, ev[i] = p := ⟨_, rfl⟩
   rw [hp] at hb hpo hof
   obtain ⟨p1, p2⟩ := p
   obtain ⟨⟨a, ha1, ha2⟩, hkp⟩ := hpo
   dsimp only at ha2 hb hkp
   subst ha2
   have hv := hvd a ha1 p2 hkp
   have hm := hmk _ (List.getElem_mem ha1)
   have h1a := hat a ha1
   unfold ofF at hof
   dsimp only at hof
   rw [gi_get ls a ha1] at hof
   generalize vdB c ls ((a : Int), p2) = v at *
   generalize maskS c ls[a] = mk at *
   generalize ls[a] = l at *
   rw [show l.c = [.str l.raw, .str l.tbs, nmV l.issuer, .int .i64 l.this, .int .i64 l.next, .int .i64 l.number, .int .i64 l.base, .str l.ak, .bool l.has, gnsV l.sc.names, .bool l.sc.ou, .bool l.sc.oc, .int .i64 l.sc.reasons, .bool l.sc.ind, ptsV l.fresh, ensV l.entries, .str l.sig] from rfl] at *
   by_cases v2 : v = 2
   ·rw [if_pos v2] at hof
    subst v2
    repeat' (first | (refine Zu ?_; intro K9 h9; simp (disch := first | exact dd | fail) [hb, hpl, h1a, hln]; refine Zm ?_; ((first | refine Zc hv ?_ | refine Zc hm ?_ | skip) <;> (refine Zf h9 ?_; clear h9 K9))) | refine Zt ?_ | refine Y8 fun K hK => ?_ | (apply hK; clear hK K) | ((first | refine Zk (ops := #[_, _, _, _, _, _, _, _, _, _]) 0 [0, 0, 0, 0, 0, 0, 0, 1, 0, 0] ?_ | refine Zk 0 [] ?_); refine Zl ?_) | (refine Yb rfl ?_ ?_ <;> intro hcnd <;> (try simp at hcnd) <;> try exact dc) | refine Zx ?_ | clear hK K)
    rw [← hof]
    exact .pure .int
   ·rw [if_neg v2] at hof
    by_cases v3 : v = 3
    ·subst v3
     repeat' (first | (refine Zu ?_; intro K9 h9; simp (disch := first | exact dd | fail) [hb, hpl, h1a, hln]; refine Zm ?_; ((first | refine Zc hv ?_ | refine Zc hm ?_ | skip) <;> (refine Zf h9 ?_; clear h9 K9))) | refine Zt ?_ | refine Y8 fun K hK => ?_ | (apply hK; clear hK K) | ((first | refine Zk (ops := #[_, _, _, _, _, _, _, _, _, _]) 0 [0, 0, 0, 0, 0, 0, 0, 1, 0, 0] ?_ | refine Zk 0 [] ?_); refine Zl ?_) | (refine Yb rfl ?_ ?_ <;> intro hcnd <;> (try simp at hcnd) <;> try exact dc) | refine Zx ?_ | clear hK K)
     refine hL (i + 1, bits .or .i64 m mk, true) _ _ ⟨hi, by simpa using hof⟩ (by dsimp only; omega) ?_
     exact Yr [some 0] (by simp [rowsOver, rowRen_live, rens_pures])
    ·repeat' (first | (refine Zu ?_; intro K9 h9; simp (disch := first | exact dd | fail) [hb, hpl, h1a, hln, v2, v3]; refine Zm ?_; ((first | refine Zc hv ?_ | refine Zc hm ?_ | skip) <;> (refine Zf h9 ?_; clear h9 K9))) | refine Zt ?_ | refine Y8 fun K hK => ?_ | (apply hK; clear hK K) | ((first | refine Zk (ops := #[_, _, _, _, _, _, _, _, _, _]) 0 [0, 0, 0, 0, 0, 0, 0, 1, 0, 0] ?_ | refine Zk 0 [] ?_); refine Zl ?_) | (refine Yb rfl ?_ ?_ <;> intro hcnd <;> (try simp at hcnd) <;> try exact dc) | refine Zx ?_ | clear hK K)
     refine hL (i + 1, bits .or .i64 m mk, h) _ _ ⟨hi, by simpa [v3] using hof⟩ (by dsimp only; omega) ?_
     exact Yr [some 0] (by simp [rowsOver, rowRen_live, rens_pures])
  ·obtain rfl : i = ev.length := by omega
   rw [List.drop_length] at hof
   unfold ofF ofE at hof
   cases h
   ·simp only [Bool.false_eq_true, if_false] at hof
    by_cases hb : bits .and .i64 m 510 = 510
    ·rw [if_pos hb] at hof
     repeat' (first | (refine Zu ?_; intro K9 h9; simp (disch := first | exact dd | fail) [hb]; refine Zm ?_; refine Zf h9 ?_; clear h9 K9) | refine Zt ?_ | refine Y8 fun K hK => ?_ | (apply hK; clear hK K) | (refine Zk 0 [] ?_; refine Zl ?_) | (refine Yb rfl ?_ ?_ <;> intro hcnd <;> (try simp at hcnd) <;> try exact dc) | refine Zx ?_ | clear hK K)
     rw [← hof]
     exact .pure .int
    ·rw [if_neg hb] at hof
     repeat' (first | (refine Zu ?_; intro K9 h9; simp (disch := first | exact dd | fail) [hb]; refine Zm ?_; refine Zf h9 ?_; clear h9 K9) | refine Zt ?_ | refine Y8 fun K hK => ?_ | (apply hK; clear hK K) | (refine Zk 0 [] ?_; refine Zl ?_) | (refine Yb rfl ?_ ?_ <;> intro hcnd <;> (try simp at hcnd) <;> try exact dc) | refine Zx ?_ | clear hK K)
     rw [← hof]
     exact .pure .int
   ·simp only [if_true] at hof
    repeat' (first | refine Zq ?_ | refine Zt ?_ | refine Y8 fun K hK => ?_ | (apply hK; clear hK K) | (refine Zk 0 [] ?_; refine Zl ?_) | (refine Yb rfl ?_ ?_ <;> intro hcnd <;> (try simp at hcnd) <;> try exact dc) | refine Zx ?_ | clear hK K)
    rw [← hof]
    exact .pure .int
 ·exact .int
end Go.Proofs.YtnpndfmbkmbhbaaGreatDoor
