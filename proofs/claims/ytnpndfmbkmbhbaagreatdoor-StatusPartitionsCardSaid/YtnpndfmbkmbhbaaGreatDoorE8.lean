/-
 STATUS: judges; all usable proofs.
 Conditions: none.
-/
import Derived.Test.YtnpndfmbkmbhbaaGreatDoorEc
set_option maxRecDepth 100000
set_option maxHeartbeats 32000000
set_option linter.all false
namespace Go.Sta
open Go.VS Go.Stp Go.Proofs.YtnpndfmbkmbhbaaGreatDoor
@[simp] theorem ansV_pure (r : List An) : (ansV r).Pure := .sl
@[simp] theorem ansV_one (r : List An) : (ansV r).one = true := rfl
def flI (ss : List An) (ls : List Li) (i : Nat) : List V := (ls.take i).map (fun l => V.bool (sgdB l ss)) ++ List.replicate (ls.length - i) (V.bool false)
theorem flI_len (ss : List An) (ls : List Li) (i : Nat) (h : i ≤ ls.length) : (flI ss ls i).length = ls.length := by simp [flI]; omega
theorem flI_set (ss : List An) (ls : List Li) (i : Nat) (h : i < ls.length) : (flI ss ls i).set i (.bool (sgdB ls[i] ss)) = flI ss ls (i + 1) := by
 have e : ls.length - i = (ls.length - (i + 1)) + 1 := by omega
 unfold flI
 rw [e, List.replicate_succ, List.take_succ_eq_append_getElem h, List.map_append]
 have hl : ((ls.take i).map fun l => V.bool (sgdB l ss)).length = i := by simp; omega
 rw [List.set_append_right _ _ (by omega), hl]
 simp
theorem flI_full (ss : List An) (ls : List Li) : flI ss ls ls.length = (ls.map (sgdB · ss)).map V.bool := by simp [flI]
theorem flI_pures (ss : List An) (ls : List Li) (i : Nat) : Pures (flI ss ls i) := by
 intro x hx
 rcases List.mem_append.1 hx with h | h
 ·obtain ⟨y, -, rfl⟩ := List.mem_map.1 h; exact .bool
 ·obtain ⟨-, rfl⟩ := List.mem_replicate.1 h; exact .bool
def prC (p : Int × Int) : List V := [.int .i64 p.1, .int .i64 p.2]
def prV (l : List (Int × Int)) : V := .sl l.length (l.flatMap prC)
theorem pr_len (l : List (Int × Int)) : (l.flatMap prC).length = l.length * 2 := flat_len (f := prC) (m := 2) (fun _ => rfl) l
theorem pr_pures (l : List (Int × Int)) : Pures (l.flatMap prC) := flat_pures (f := prC) (fun p => by simp [prC]) l
theorem prf1_succ (c : Ce) (ss : List An) (ls : List Li) (t : Int) (i q : Nat) : prf1 c ss ls t i (q + 1) = prf1 c ss ls t i q ++ (if usB c ss ls t ((i : Int), (q : Int) - 1) = true then [((i : Int), (q : Int) - 1)] else []) := by
 unfold prf1
 rw [List.range_succ, List.map_append, List.filter_append]
 simp only [List.map_cons, List.map_nil, List.filter_cons, List.filter_nil]
theorem prfs_succ (c : Ce) (ss : List An) (ls : List Li) (t : Int) (i : Nat) : prfs c ss ls t (i + 1) = prfs c ss ls t i ++ prfI c ss ls t i := by
 unfold prfs
 rw [List.range_succ, List.flatMap_append]
 simp
theorem prf1_le (c : Ce) (ss : List An) (ls : List Li) (t : Int) (i q : Nat) : (prf1 c ss ls t i q).length ≤ q := by
 unfold prf1
 exact Nat.le_trans (List.length_filter_le _ _) (by simp)
theorem prfI_le (c : Ce) (ss : List An) (ls : List Li) (t : Int) (i : Nat) : (prfI c ss ls t i).length ≤ ls.length + 1 := by
 unfold prfI
 split
 ·exact prf1_le c ss ls t i _
 ·simp
theorem prfs_le (c : Ce) (ss : List An) (ls : List Li) (t : Int) : ∀ i, (prfs c ss ls t i).length ≤ i * (ls.length + 1)
 | 0 => by simp [prfs]
 | i + 1 => by
  have h1 := prfs_le c ss ls t i
  have h2 := prfI_le c ss ls t i
  rw [prfs_succ, List.length_append, Nat.succ_mul]; omega
end Go.Sta
namespace Go.Proofs.YtnpndfmbkmbhbaaGreatDoor
open Go.Proofs.Tryz
open Go.VS Go.Stp Go.Sta
attribute [local irreducible] arun arunD arunU AWp aend verE
theorem newJ_call (c : Ce) (ss : List An) (ls : List Li) (t : Int) (w : WWo c ls) (hs : ss.length ≤ 65536) (hsw : ∀ s ∈ ss, WAn s) : PCall prog 24 [.agg c.c, ansV ss, lisV ls, .int .i64 t] (.agg (jdC c ls (ls.map (sgdB · ss)) t)) := by
 have hn := w.n
 have hln := lis_len ls
 have hat := lis_at ls
 have hsd := fun l (h : l ∈ ls) => ssigned_call l ss (w.l l h) hs hsw
 have hfl : (ls.map (sgdB · ss)).length = ls.length := by simp
 unfold jdC lisV flV
 rw [hfl]
 clear hfl
 have h0 : flI ss ls 0 = List.replicate ls.length (V.bool false) := by simp [flI]
 rw [Ce.c.eq_1]
 refine pcall_body func24 rfl call24 ?_ ?_
 rotate_left 1
 refine awp_slots (s' := (.agg [.str c.raw, .str c.tbs, .int .i64 c.serial, nmV c.issuer, nmV c.subject, .int .i64 c.nb, .int .i64 c.na, .int .i64 c.key.h, .str c.key.id, .str c.key.root, .bool c.info.basic, .bool c.info.ca, .int .i64 c.info.plen, .int .i64 c.info.usage, strV c.info.purposes, strV c.info.policies, mpsV c.info.maps, .int .i64 c.info.rexp, .int .i64 c.info.imap, .int .i64 c.info.iany, gnsV c.info.names, .bool c.info.hasC, gnsV c.info.cons.p, gnsV c.info.cons.x, .str c.info.sk, .str c.info.ak, ptsV c.info.points, ptsV c.info.fresh, exsV c.info.unk, .str c.sig] : V) :: (ansV ss : V) :: (.sl ls.length (ls.flatMap Li.c) : V) :: (.int .i64 t : V) :: zJ 31) rfl ?_; dsimp only [zJ]
 ·repeat' (first | refine Zq ?_ | refine Zt ?_ | refine Y8 fun K hK => ?_ | (apply hK; clear hK K) | ((first | refine Zk 0 [] ?_ | refine Zk 2 [] ?_); refine Zl ?_) | (refine Yb rfl ?_ ?_ <;> intro hcnd <;> (try simp at hcnd) <;> try exact dc) | refine Zx ?_ | clear hK K)
  refine awp_countU (fun i => (some V.junk :: none :: zS 3 (zN 5 (zS 9 (zN 2 (some (V.int .i64 i) :: zS 13 [])))))) (fun i => [.live [.str c.raw, .str c.tbs, .int .i64 c.serial, nmV c.issuer, nmV c.subject, .int .i64 c.nb, .int .i64 c.na, .int .i64 c.key.h, .str c.key.id, .str c.key.root, .bool c.info.basic, .bool c.info.ca, .int .i64 c.info.plen, .int .i64 c.info.usage, strV c.info.purposes, strV c.info.policies, mpsV c.info.maps, .int .i64 c.info.rexp, .int .i64 c.info.imap, .int .i64 c.info.iany, gnsV c.info.names, .bool c.info.hasC, gnsV c.info.cons.p, gnsV c.info.cons.x, .str c.info.sk, .str c.info.ak, ptsV c.info.points, ptsV c.info.fresh, exsV c.info.unk, .str c.sig], .live (V.str [] :: V.str [] :: V.int .i64 0 :: [.nils, .nils, .int .i64 0, .int .i64 0, .int .i64 0, .str [], .str [], .bool false, .bool false, .int .i64 0, .int .i64 0, .nils, .nils, .nils, .int .i64 0, .int .i64 0, .int .i64 0, .nils, .bool false, .nils, .nils, .str [], .str [], .nils, .nils, .nils, .str [], .nils, .nils, .int .i64 0]), .live (flI ss ls i), .live (V.str c.raw :: V.str c.tbs :: V.int .i64 c.serial :: [nmV c.issuer, nmV c.subject, .int .i64 c.nb, .int .i64 c.na, .int .i64 c.key.h, .str c.key.id, .str c.key.root, .bool c.info.basic, .bool c.info.ca, .int .i64 c.info.plen, .int .i64 c.info.usage, strV c.info.purposes, strV c.info.policies, mpsV c.info.maps, .int .i64 c.info.rexp, .int .i64 c.info.imap, .int .i64 c.info.iany, gnsV c.info.names, .bool c.info.hasC, gnsV c.info.cons.p, gnsV c.info.cons.x, .str c.info.sk, .str c.info.ak, ptsV c.info.points, ptsV c.info.fresh, exsV c.info.unk, .str c.sig, .sl ls.length (ls.flatMap Li.c), .osl 2 0 ls.length 1, .int .i64 t])]) ls.length ?_ fun i hi KL hL => ?_
  ·dsimp only [ups, zN, zS]
   exact Yr [some 0, some 1, some 2, some 3] (by simp [rowsOver, rowRen_live, rens_pures, h0])
  dsimp only [ups, zN, zS]
  have hfl := flI_len ss ls i (by omega)
  have hfp := flI_pures ss ls i
  rcases Nat.lt_or_ge i ls.length with hi | hi
  ·have ha := hat i hi
   have hd := hsd _ (List.getElem_mem hi)
   have hst := flI_set ss ls i hi
   have hfp2 := flI_pures ss ls (i + 1)
   obtain ⟨x, hxx⟩ : ∃ x, ls[i] = x := ⟨_, rfl⟩
   rw [hxx] at ha hd hst
   rw [show x.c = [.str x.raw, .str x.tbs, nmV x.issuer, .int .i64 x.this, .int .i64 x.next, .int .i64 x.number, .int .i64 x.base, .str x.ak, .bool x.has, gnsV x.sc.names, .bool x.sc.ou, .bool x.sc.oc, .int .i64 x.sc.reasons, .bool x.sc.ind, ptsV x.fresh, ensV x.entries, .str x.sig] from rfl] at ha hd
   generalize sgdB x ss = b at *
   generalize flI ss ls i = F at *
   generalize flI ss ls (i + 1) = F2 at *
   generalize ls.flatMap Li.c = C at *
   repeat' (first | (refine Zu ?_; intro K9 h9; simp (disch := first | exact dd | fail) [ha, hln, hfl]; refine Zm ?_; ((first | refine Zc hd ?_ | skip) <;> (refine Zf h9 ?_; clear h9 K9))) | refine Zt ?_ | refine Y8 fun K hK => ?_ | (apply hK; clear hK K) | ((first | refine Zk (ops := #[_, _, _, _, _, _, _, _]) 0 [0, 0, 0, 0, 0, 1, 0, 0] ?_ | refine Zk (ops := #[_, _, _, _, _, _, _, _]) 2 [0, 0, 0, 0, 0, 1, 0, 0] ?_ | refine Zk 0 [] ?_ | refine Zk 2 [] ?_); refine Zl ?_) | (refine Yb rfl ?_ ?_ <;> intro hcnd <;> (try simp at hcnd) <;> try exact dc) | refine Zx ?_ | clear hK K)
   refine hL _ _ hi ?_
   exact Yr [some 0, some 1, some 2, some 3] (by simp [rowsOver, rowRen_live, rens_pures, hst, hfp2])
  ·obtain rfl : i = ls.length := by omega
   rw [flI_full] at *
   generalize (ls.map (sgdB · ss)).map V.bool = F at *
   generalize ls.flatMap Li.c = C at *
   repeat' (first | refine Zq ?_ | refine Zt ?_ | refine Y8 fun K hK => ?_ | (apply hK; clear hK K) | ((first | refine Zk 0 [] ?_ | refine Zk 2 [] ?_); refine Zl ?_) | (refine Yb rfl ?_ ?_ <;> intro hcnd <;> (try simp at hcnd) <;> try exact dc) | refine Zx ?_ | clear hK K)
   simp
   exact view_agg ⟨.pure (by simp), .pure (by simp), .pure (by simp), .pure (by simp), .pure (by simp), .pure (by simp), .pure (by simp), .pure (by simp), .pure (by simp), .pure (by simp), .pure (by simp), .pure (by simp), .pure (by simp), .pure (by simp), .pure (by simp), .pure (by simp), .pure (by simp), .pure (by simp), .pure (by simp), .pure (by simp), .pure (by simp), .pure (by simp), .pure (by simp), .pure (by simp), .pure (by simp), .pure (by simp), .pure (by simp), .pure (by simp), .pure (by simp), .pure (by simp), .pure .sl, view_row rfl (by simp [hfl]) hfp, .pure .int, trivial⟩
 ·exact .agg (by simp)
theorem jproofs_call (c : Ce) (ss : List An) (ls : List Li) (t : Int) (w : WWo c ls) (hsz : ls.length ≤ 1000) : PCall prog 25 [.agg (jdC c ls (ls.map (sgdB · ss)) t)] (prV (prfs c ss ls t ls.length)) := by
 have hn := w.n
 have hcm := fun i (hi : i < ls.length) => jcmp_call c ss ls t w i hi
 have hus := fun i (hi : i < ls.length) k (hk : okK ls k) => jus_call c ss ls t w i hi k hk
 have hfl : (ls.map (sgdB · ss)).length = ls.length := by simp
 unfold jdC lisV flV at *
 simp only [hfl] at hcm hus ⊢
 clear hfl
 generalize (ls.map (sgdB · ss)).map V.bool = F at *
 unfold prV
 refine pcall_body func25 rfl call25 ?_ ?_
 rotate_left 1
 refine awp_slots (s' := (.agg (V.str c.raw :: V.str c.tbs :: V.int .i64 c.serial :: [nmV c.issuer, nmV c.subject, .int .i64 c.nb, .int .i64 c.na, .int .i64 c.key.h, .str c.key.id, .str c.key.root, .bool c.info.basic, .bool c.info.ca, .int .i64 c.info.plen, .int .i64 c.info.usage, strV c.info.purposes, strV c.info.policies, mpsV c.info.maps, .int .i64 c.info.rexp, .int .i64 c.info.imap, .int .i64 c.info.iany, gnsV c.info.names, .bool c.info.hasC, gnsV c.info.cons.p, gnsV c.info.cons.x, .str c.info.sk, .str c.info.ak, ptsV c.info.points, ptsV c.info.fresh, exsV c.info.unk, .str c.sig, .sl ls.length (ls.flatMap Li.c), .sl ls.length F, .int .i64 t]) : V) :: zJ 35) rfl ?_; dsimp only [zJ]
 ·repeat' (first | refine Zq ?_ | refine Zt ?_ | refine Y8 fun K hK => ?_ | (apply hK; clear hK K) | (refine Yb rfl ?_ ?_ <;> intro hcnd <;> (try simp at hcnd) <;> try exact dc) | refine Zx ?_ | clear hK K)
  refine awp_countU (fun i => (some V.junk :: none :: some V.junk :: some (V.osl 1 0 (prfs c ss ls t i).length 2) :: zS 5 (none :: some (V.int .i64 i) :: zS 25 []))) (fun i => [.live (V.str c.raw :: V.str c.tbs :: V.int .i64 c.serial :: [nmV c.issuer, nmV c.subject, .int .i64 c.nb, .int .i64 c.na, .int .i64 c.key.h, .str c.key.id, .str c.key.root, .bool c.info.basic, .bool c.info.ca, .int .i64 c.info.plen, .int .i64 c.info.usage, strV c.info.purposes, strV c.info.policies, mpsV c.info.maps, .int .i64 c.info.rexp, .int .i64 c.info.imap, .int .i64 c.info.iany, gnsV c.info.names, .bool c.info.hasC, gnsV c.info.cons.p, gnsV c.info.cons.x, .str c.info.sk, .str c.info.ak, ptsV c.info.points, ptsV c.info.fresh, exsV c.info.unk, .str c.sig, .sl ls.length (ls.flatMap Li.c), .sl ls.length F, .int .i64 t]), .live ((prfs c ss ls t i).flatMap prC)]) ls.length ?_ fun i hi KL hL => ?_
  ·dsimp only [ups, zN, zS]
   exact Le.mk [some 0, none] (by simp [prfs]) (rowsRen_of (by simp) (by simp [rowsOver, rowRen_live, rens_pures, prfs])) (by simp)
  dsimp only [ups, zN, zS]
  rcases Nat.lt_or_ge i ls.length with hi | hi
  ·have hc := hcm i hi
   have hsu := prfs_succ c ss ls t i
   have hIe : prfI c ss ls t i = if cmpB c ss ls i = true then prf1 c ss ls t i (ls.length + 1) else [] := rfl
   cases hcb : cmpB c ss ls i
   ·rw [hcb] at hc
    rw [hIe, hcb] at hsu
    simp only [Bool.false_eq_true, if_false, List.append_nil] at hsu
    have hpp := pr_pures (prfs c ss ls t i)
    repeat' (first | (refine Zu ?_; intro K9 h9; refine Zd ?_; ((first | refine Ap hc ?_ | skip) <;> (refine Zf h9 ?_; clear h9 K9))) | refine Zt ?_ | refine Y8 fun K hK => ?_ | (apply hK; clear hK K) | (refine Yb rfl ?_ ?_ <;> intro hcnd <;> (try simp at hcnd) <;> try exact dc) | refine Zx ?_ | clear hK K)
    refine hL _ _ hi ?_
    rw [hsu]
    exact Yr [some 0, some 1] (by simp [rowsOver, rowRen_live, rens_pures, hpp])
   ·rw [hcb] at hc
    rw [hIe, hcb] at hsu
    simp only [if_true] at hsu
    have hpp := pr_pures (prfs c ss ls t i)
    repeat' (first | (refine Zu ?_; intro K9 h9; refine Zd ?_; ((first | refine Ap hc ?_ | skip) <;> (refine Zf h9 ?_; clear h9 K9))) | refine Zt ?_ | refine Y8 fun K hK => ?_ | (apply hK; clear hK K) | (refine Yb rfl ?_ ?_ <;> intro hcnd <;> (try simp at hcnd) <;> try exact dc) | refine Zx ?_ | clear hK K)
    refine awp_countU (fun q => (some V.junk :: none :: some V.junk :: some (V.osl 1 0 (prfs c ss ls t i ++ prf1 c ss ls t i q).length 2) :: none :: some (V.int .i64 ((q : Int) - 1)) :: zS 3 (zN 2 (zS 25 [])))) (fun q => [.live (V.str c.raw :: V.str c.tbs :: V.int .i64 c.serial :: [nmV c.issuer, nmV c.subject, .int .i64 c.nb, .int .i64 c.na, .int .i64 c.key.h, .str c.key.id, .str c.key.root, .bool c.info.basic, .bool c.info.ca, .int .i64 c.info.plen, .int .i64 c.info.usage, strV c.info.purposes, strV c.info.policies, mpsV c.info.maps, .int .i64 c.info.rexp, .int .i64 c.info.imap, .int .i64 c.info.iany, gnsV c.info.names, .bool c.info.hasC, gnsV c.info.cons.p, gnsV c.info.cons.x, .str c.info.sk, .str c.info.ak, ptsV c.info.points, ptsV c.info.fresh, exsV c.info.unk, .str c.sig, .sl ls.length (ls.flatMap Li.c), .sl ls.length F, .int .i64 t]), .live ((prfs c ss ls t i ++ prf1 c ss ls t i q).flatMap prC)]) (ls.length + 1) ?_ fun q hq KM hM => ?_
    ·dsimp only [ups, zN, zS]
     exact Le.mk [some 0, some 1] (by simp [prf1]) (rowsRen_of (by simp) (by simp [rowsOver, rowRen_live, rens_pures, prf1, hpp])) (by simp)
    dsimp only [ups, zN, zS]
    have hpq := pr_pures (prfs c ss ls t i ++ prf1 c ss ls t i q)
    have hpl := pr_len (prfs c ss ls t i ++ prf1 c ss ls t i q)
    have hle1 := prfs_le c ss ls t i
    have hle2 := prf1_le c ss ls t i q
    have hle : (prfs c ss ls t i ++ prf1 c ss ls t i q).length ≤ 2000000 := by
     have : i * (ls.length + 1) ≤ 1000 * 1001 := Nat.mul_le_mul (by omega) (by omega)
     rw [List.length_append]; omega
    rcases Nat.lt_or_ge q (ls.length + 1) with hq | hq
    ·have hu := hus i hi ((q : Int) - 1) (by
      rcases Nat.eq_zero_or_pos q with rfl | h
      ·exact .inl rfl
      ·exact .inr ⟨q - 1, by omega, by omega⟩)
     have hs1 := prf1_succ c ss ls t i q
     have hq1 : (q : Int) - 1 < ls.length := by omega
     cases hub : usB c ss ls t ((i : Int), (q : Int) - 1)
     ·rw [hub] at hu hs1
      simp only [Bool.false_eq_true, if_false, List.append_nil] at hs1
      rw [hs1] at hM
      generalize prfs c ss ls t i ++ prf1 c ss ls t i q = Q at *
      repeat' (first | (refine Zu ?_; intro K9 h9; simp (disch := first | exact dd | fail) [hq1]; refine Zm ?_; ((first | refine Ap hu ?_ | skip) <;> (refine Zf h9 ?_; clear h9 K9))) | refine Zt ?_ | refine Y8 fun K hK => ?_ | (apply hK; clear hK K) | (refine Yb rfl ?_ ?_ <;> intro hcnd <;> (try simp at hcnd) <;> try exact dc) | refine Zx ?_ | clear hK K)
      refine hM _ _ hq ?_
      exact Yr [some 0, some 1] (by simp [rowsOver, rowRen_live, rens_pures, hpq])
     ·rw [hub] at hu hs1
      simp only [if_true] at hs1
      rw [hs1, ← List.append_assoc] at hM
      generalize prfs c ss ls t i ++ prf1 c ss ls t i q = Q at *
      have htk : List.take (Q.length * 2) (Q.flatMap prC) = Q.flatMap prC := List.take_of_length_le (by omega)
      have hfm : (Q ++ [((i : Int), (q : Int) - 1)]).flatMap prC = Q.flatMap prC ++ [.int .i64 i, .int .i64 ((q : Int) - 1)] := by simp [prC]
      rw [hfm] at hM
      clear hfm
      generalize Q.flatMap prC = C2 at *
      repeat' (first | (refine Zu ?_; intro K9 h9; simp (disch := first | exact dd | fail) [hq1, hpl, htk]; refine Zm ?_; ((first | refine Ap hu ?_ | skip) <;> (refine Zf h9 ?_; clear h9 K9))) | refine Zt ?_ | refine Y8 fun K hK => ?_ | (apply hK; clear hK K) | (refine Yb rfl ?_ ?_ <;> intro hcnd <;> (try simp at hcnd) <;> try exact dc) | refine Zx ?_ | clear hK K)
      refine hM _ _ hq ?_
      have hp3 : Pures (C2 ++ [.int .i64 i, .int .i64 ((q : Int) - 1)]) := by simp [hpq]
      exact Yr [some 0, some 4] (by simp [rowsOver, rowRen_live, rens_pures, hp3])
    ·obtain rfl : q = ls.length + 1 := by omega
     rw [← hsu] at *
     repeat' (first | refine Zq ?_ | refine Zt ?_ | refine Y8 fun K hK => ?_ | (apply hK; clear hK K) | (refine Yb rfl ?_ ?_ <;> intro hcnd <;> (try simp at hcnd) <;> try exact dc) | refine Zx ?_ | clear hK K)
     refine hL _ _ hi ?_
     exact Yr [some 0, some 1] (by simp [rowsOver, rowRen_live, rens_pures, hpq])
  ·obtain rfl : i = ls.length := by omega
   have hpp := pr_pures (prfs c ss ls t ls.length)
   have hpl := pr_len (prfs c ss ls t ls.length)
   repeat' (first | refine Zq ?_ | refine Zt ?_ | refine Y8 fun K hK => ?_ | (apply hK; clear hK K) | (refine Yb rfl ?_ ?_ <;> intro hcnd <;> (try simp at hcnd) <;> try exact dc) | refine Zx ?_ | clear hK K)
   exact view_row rfl (by omega) hpp
 ·exact .sl
end Go.Proofs.YtnpndfmbkmbhbaaGreatDoor

