/-
 STATUS: verdicts, decisive proofs, statuses.
 Conditions: none.
-/
import Derived.Test.YtnpndfmbkmbhbaaGreatDoorE8
set_option maxRecDepth 100000
set_option maxHeartbeats 32000000
set_option linter.all false
namespace Go.Sta
open Go.VS Go.Stp Go.Proofs.YtnpndfmbkmbhbaaGreatDoor
def okP (ls : List Li) (p : Int × Int) : Prop := (∃ i : Nat, i < ls.length ∧ p.1 = i) ∧ okK ls p.2
theorem prfs_ok {c : Ce} {ss : List An} {ls : List Li} {t : Int} : ∀ n, n ≤ ls.length → ∀ p ∈ prfs c ss ls t n, okP ls p := by
 intro n hn p hp
 unfold prfs at hp
 obtain ⟨i, hi, hp⟩ := List.mem_flatMap.1 hp
 have hi := List.mem_range.1 hi
 unfold prfI at hp
 split at hp
 ·unfold prf1 at hp
  obtain ⟨hp, -⟩ := List.mem_filter.1 hp
  obtain ⟨k, hk, rfl⟩ := List.mem_map.1 hp
  have hk := List.mem_range.1 hk
  refine ⟨⟨i, by omega, rfl⟩, ?_⟩
  rcases Nat.eq_zero_or_pos k with rfl | h
  ·exact .inl rfl
  ·exact .inr ⟨k - 1, by omega, by show (k : Int) - 1 = _; omega⟩
 ·simp at hp
def lost (ls : List Li) (all : List (Int × Int)) (p : Int × Int) : Bool := all.any (losB ls p)
def evS (ls : List Li) (all : List (Int × Int)) (i : Nat) : List (Int × Int) := (all.take i).filter fun p => !lost ls all p
theorem evS_succ (ls : List Li) (all : List (Int × Int)) (i : Nat) (h : i < all.length) : evS ls all (i + 1) = evS ls all i ++ (if lost ls all all[i] = true then [] else [all[i]]) := by
 unfold evS
 rw [List.take_succ_eq_append_getElem h, List.filter_append]
 congr 1
 cases hl : lost ls all all[i] <;> simp [hl]
theorem evS_full (c : Ce) (ss : List An) (ls : List Li) (t : Int) : evS ls (prfs c ss ls t ls.length) (prfs c ss ls t ls.length).length = evid c ss ls t := by
 unfold evS evid lost
 rw [List.take_length]
theorem evS_le (ls : List Li) (all : List (Int × Int)) (i : Nat) : (evS ls all i).length ≤ all.length := by
 unfold evS
 exact Nat.le_trans (List.length_filter_le _ _) (by simp; omega)
theorem pr_at (l : List (Int × Int)) (i : Nat) (h : i < l.length) : ((l.flatMap prC).drop (i * 2)).take 2 = [.int .i64 l[i].1, .int .i64 l[i].2] := flat_at (f := prC) (fun _ => rfl) l i h
end Go.Sta
namespace Go.Proofs.YtnpndfmbkmbhbaaGreatDoor
open Go.Proofs.Tryz
open Go.VS Go.Stp Go.Sta
attribute [local irreducible] arun arunD arunU AWp aend verE DU.arunD
attribute [local simp] DU.gval
theorem verdict_call (c : Ce) (ls : List Li) (w : WWo c ls) (i : Nat) (hi : i < ls.length) (k : Int) (hk : okK ls k) : PCall prog 22 [.agg c.c, lisV ls, .agg [.int .i64 i, .int .i64 k]] (.int .i64 (vdB c ls (i, k))) := by
 have hn := w.n
 have hln := lis_len ls
 have hf := fun l (h : l ∈ ls) => cfind_call c l (w.l l h) w.ci
 have h1 := lis_at ls i hi
 have hfi := hf _ (List.getElem_mem hi)
 have hi2 : ¬ ls.length ≤ i := by omega
 rw [Ce.c.eq_1]
 unfold lisV
 rcases hk with rfl | ⟨q, hq, rfl⟩
 ·have hr : vdB c ls ((i : Int), -1) = vdR (fndE c ls[i]) := by
   unfold vdB
   rw [if_neg (by simp; omega)]
   simp [gi_get ls i hi]
  rw [hr]
  clear hr hf
  generalize fndE c ls[i] = r at *
  generalize ls[i] = l at *
  rw [show l.c = [.str l.raw, .str l.tbs, nmV l.issuer, .int .i64 l.this, .int .i64 l.next, .int .i64 l.number, .int .i64 l.base, .str l.ak, .bool l.has, gnsV l.sc.names, .bool l.sc.ou, .bool l.sc.oc, .int .i64 l.sc.reasons, .bool l.sc.ind, ptsV l.fresh, ensV l.entries, .str l.sig] from rfl] at *
  generalize ls.flatMap Li.c = C at *
  rcases r with _ | e
  ·rw [show vdR none = 1 from rfl]
   rw [show fndV none = .tup [.agg [.int .i64 0, .int .i64 0, .int .i64 0, .int .i64 0, .nils], .bool false] from rfl] at hfi
   ·refine pcall_body func22 rfl call22 ?_ ?_
    rotate_left 1
    refine awp_slots (s' := (.agg [.str c.raw, .str c.tbs, .int .i64 c.serial, nmV c.issuer, nmV c.subject, .int .i64 c.nb, .int .i64 c.na, .int .i64 c.key.h, .str c.key.id, .str c.key.root, .bool c.info.basic, .bool c.info.ca, .int .i64 c.info.plen, .int .i64 c.info.usage, strV c.info.purposes, strV c.info.policies, mpsV c.info.maps, .int .i64 c.info.rexp, .int .i64 c.info.imap, .int .i64 c.info.iany, gnsV c.info.names, .bool c.info.hasC, gnsV c.info.cons.p, gnsV c.info.cons.x, .str c.info.sk, .str c.info.ak, ptsV c.info.points, ptsV c.info.fresh, exsV c.info.unk, .str c.sig] : V) :: (.sl ls.length C : V) :: (.agg [.int .i64 i, .int .i64 (-1)] : V) :: zJ 71) rfl ?_; dsimp only [zJ]
    ·repeat' (first | ((first | refine ZuU ?_ | (refine ZvU ?_ ?_; (focus (simp [h1, hln, hi2]; done)))); intro K9 h9; simp (disch := first | exact dd | fail) [h1, hln, hi2]; refine Zm ?_; ((first | refine Zc hfi ?_ | skip) <;> (refine ZfU h9 ?_; clear h9 K9))) | refine ZtU ?_ | refine Y8 fun K hK => ?_ | (apply hK; clear hK K) | ((first | refine Zk (ops := #[_, _, _, _, _, _, _, _, _, _, _, _, _, _, _]) 0 [0, 0, 0, 0, 0, 0, 0, 0, 0, 1, 0, 0, 0, 0, 0] ?_ | refine Zk 0 [] ?_); refine Zl ?_) | (refine Yb rfl ?_ ?_ <;> intro hcnd <;> (try simp at hcnd) <;> try exact dc) | (refine ZnU ?_ ?_; (focus (simp [h1, hln, hi2]; done)); refine ZsU ?_) | refine Zx ?_ | clear hK K)
     exact .pure .int
    ·exact .int
  ·rw [show fndV (some e) = .tup [.agg [.int .i64 e.serial, .int .i64 e.time, .int .i64 e.reason, .int .i64 e.inv, nmV e.issuer], .bool true] from rfl] at hfi
   by_cases r8 : e.reason = 8
   ·rw [r8] at hfi
    rw [show vdR (some e) = 1 by simp [vdR, r8]]
    ·refine pcall_body func22 rfl call22 ?_ ?_
     rotate_left 1
     refine awp_slots (s' := (.agg [.str c.raw, .str c.tbs, .int .i64 c.serial, nmV c.issuer, nmV c.subject, .int .i64 c.nb, .int .i64 c.na, .int .i64 c.key.h, .str c.key.id, .str c.key.root, .bool c.info.basic, .bool c.info.ca, .int .i64 c.info.plen, .int .i64 c.info.usage, strV c.info.purposes, strV c.info.policies, mpsV c.info.maps, .int .i64 c.info.rexp, .int .i64 c.info.imap, .int .i64 c.info.iany, gnsV c.info.names, .bool c.info.hasC, gnsV c.info.cons.p, gnsV c.info.cons.x, .str c.info.sk, .str c.info.ak, ptsV c.info.points, ptsV c.info.fresh, exsV c.info.unk, .str c.sig] : V) :: (.sl ls.length C : V) :: (.agg [.int .i64 i, .int .i64 (-1)] : V) :: zJ 71) rfl ?_; dsimp only [zJ]
     ·repeat' (first | ((first | refine ZuU ?_ | (refine ZvU ?_ ?_; (focus (simp [h1, hln, hi2]; done)))); intro K9 h9; simp (disch := first | exact dd | fail) [h1, hln, hi2]; refine Zm ?_; ((first | refine Zc hfi ?_ | skip) <;> (refine ZfU h9 ?_; clear h9 K9))) | refine ZtU ?_ | refine Y8 fun K hK => ?_ | (apply hK; clear hK K) | ((first | refine Zk (ops := #[_, _, _, _, _, _, _, _, _, _, _, _, _, _, _]) 0 [0, 0, 0, 0, 0, 0, 0, 0, 0, 1, 0, 0, 0, 0, 0] ?_ | refine Zk 0 [] ?_); refine Zl ?_) | (refine Yb rfl ?_ ?_ <;> intro hcnd <;> (try simp at hcnd) <;> try exact dc) | (refine ZnU ?_ ?_; (focus (simp [h1, hln, hi2]; done)); refine ZsU ?_) | refine Zx ?_ | clear hK K)
      exact .pure .int
     ·exact .int
   ·by_cases r6 : e.reason = 6
    ·rw [r6] at hfi
     rw [show vdR (some e) = 3 by simp [vdR, r6]]
     ·refine pcall_body func22 rfl call22 ?_ ?_
      rotate_left 1
      refine awp_slots (s' := (.agg [.str c.raw, .str c.tbs, .int .i64 c.serial, nmV c.issuer, nmV c.subject, .int .i64 c.nb, .int .i64 c.na, .int .i64 c.key.h, .str c.key.id, .str c.key.root, .bool c.info.basic, .bool c.info.ca, .int .i64 c.info.plen, .int .i64 c.info.usage, strV c.info.purposes, strV c.info.policies, mpsV c.info.maps, .int .i64 c.info.rexp, .int .i64 c.info.imap, .int .i64 c.info.iany, gnsV c.info.names, .bool c.info.hasC, gnsV c.info.cons.p, gnsV c.info.cons.x, .str c.info.sk, .str c.info.ak, ptsV c.info.points, ptsV c.info.fresh, exsV c.info.unk, .str c.sig] : V) :: (.sl ls.length C : V) :: (.agg [.int .i64 i, .int .i64 (-1)] : V) :: zJ 71) rfl ?_; dsimp only [zJ]
      ·repeat' (first | ((first | refine ZuU ?_ | (refine ZvU ?_ ?_; (focus (simp [h1, hln, hi2]; done)))); intro K9 h9; simp (disch := first | exact dd | fail) [h1, hln, hi2]; refine Zm ?_; ((first | refine Zc hfi ?_ | skip) <;> (refine ZfU h9 ?_; clear h9 K9))) | refine ZtU ?_ | refine Y8 fun K hK => ?_ | (apply hK; clear hK K) | ((first | refine Zk (ops := #[_, _, _, _, _, _, _, _, _, _, _, _, _, _, _]) 0 [0, 0, 0, 0, 0, 0, 0, 0, 0, 1, 0, 0, 0, 0, 0] ?_ | refine Zk 0 [] ?_); refine Zl ?_) | (refine Yb rfl ?_ ?_ <;> intro hcnd <;> (try simp at hcnd) <;> try exact dc) | (refine ZnU ?_ ?_; (focus (simp [h1, hln, hi2]; done)); refine ZsU ?_) | refine Zx ?_ | clear hK K)
       exact .pure .int
      ·exact .int
    ·rw [show vdR (some e) = 2 by simp [vdR, r6, r8]]
     ·refine pcall_body func22 rfl call22 ?_ ?_
      rotate_left 1
      refine awp_slots (s' := (.agg [.str c.raw, .str c.tbs, .int .i64 c.serial, nmV c.issuer, nmV c.subject, .int .i64 c.nb, .int .i64 c.na, .int .i64 c.key.h, .str c.key.id, .str c.key.root, .bool c.info.basic, .bool c.info.ca, .int .i64 c.info.plen, .int .i64 c.info.usage, strV c.info.purposes, strV c.info.policies, mpsV c.info.maps, .int .i64 c.info.rexp, .int .i64 c.info.imap, .int .i64 c.info.iany, gnsV c.info.names, .bool c.info.hasC, gnsV c.info.cons.p, gnsV c.info.cons.x, .str c.info.sk, .str c.info.ak, ptsV c.info.points, ptsV c.info.fresh, exsV c.info.unk, .str c.sig] : V) :: (.sl ls.length C : V) :: (.agg [.int .i64 i, .int .i64 (-1)] : V) :: zJ 71) rfl ?_; dsimp only [zJ]
      ·repeat' (first | ((first | refine ZuU ?_ | (refine ZvU ?_ ?_; (focus (simp [h1, hln, hi2, r6, r8]; done)))); intro K9 h9; simp (disch := first | exact dd | fail) [h1, hln, hi2, r6, r8]; refine Zm ?_; ((first | refine Zc hfi ?_ | skip) <;> (refine ZfU h9 ?_; clear h9 K9))) | refine ZtU ?_ | refine Y8 fun K hK => ?_ | (apply hK; clear hK K) | ((first | refine Zk (ops := #[_, _, _, _, _, _, _, _, _, _, _, _, _, _, _]) 0 [0, 0, 0, 0, 0, 0, 0, 0, 0, 1, 0, 0, 0, 0, 0] ?_ | refine Zk 0 [] ?_); refine Zl ?_) | (refine Yb rfl ?_ ?_ <;> intro hcnd <;> (try simp at hcnd) <;> try exact dc) | (refine ZnU ?_ ?_; (focus (simp [h1, hln, hi2, r6, r8]; done)); refine ZsU ?_) | refine Zx ?_ | clear hK K)
       exact .pure .int
      ·exact .int
 ·have hr : vdB c ls ((i : Int), (q : Int)) = vdR ((fndE c ls[q]).or (fndE c ls[i])) := by
   unfold vdB
   rw [if_neg (by simp; omega)]
   simp [gi_get ls i hi, gi_get ls q hq]
  rw [hr]
  have h1q := lis_at ls q hq
  have hfq := hf _ (List.getElem_mem hq)
  have hq1 : ¬ (q : Int) < -1 := by omega
  have hq2 : ¬ ls.length ≤ q := by omega
  clear hr hf
  generalize fndE c ls[i] = r at *
  generalize fndE c ls[q] = r2 at *
  generalize ls[i] = l at *
  generalize ls[q] = m at *
  rw [show l.c = [.str l.raw, .str l.tbs, nmV l.issuer, .int .i64 l.this, .int .i64 l.next, .int .i64 l.number, .int .i64 l.base, .str l.ak, .bool l.has, gnsV l.sc.names, .bool l.sc.ou, .bool l.sc.oc, .int .i64 l.sc.reasons, .bool l.sc.ind, ptsV l.fresh, ensV l.entries, .str l.sig] from rfl] at *
  rw [show m.c = [.str m.raw, .str m.tbs, nmV m.issuer, .int .i64 m.this, .int .i64 m.next, .int .i64 m.number, .int .i64 m.base, .str m.ak, .bool m.has, gnsV m.sc.names, .bool m.sc.ou, .bool m.sc.oc, .int .i64 m.sc.reasons, .bool m.sc.ind, ptsV m.fresh, ensV m.entries, .str m.sig] from rfl] at *
  generalize ls.flatMap Li.c = C at *
  rcases r2 with _ | e
  ·rw [show fndV none = .tup [.agg [.int .i64 0, .int .i64 0, .int .i64 0, .int .i64 0, .nils], .bool false] from rfl] at hfq
   rw [Option.none_or]
   rcases r with _ | e
   ·rw [show vdR none = 1 from rfl]
    rw [show fndV none = .tup [.agg [.int .i64 0, .int .i64 0, .int .i64 0, .int .i64 0, .nils], .bool false] from rfl] at hfi
    ·refine pcall_body func22 rfl call22 ?_ ?_
     rotate_left 1
     refine awp_slots (s' := (.agg [.str c.raw, .str c.tbs, .int .i64 c.serial, nmV c.issuer, nmV c.subject, .int .i64 c.nb, .int .i64 c.na, .int .i64 c.key.h, .str c.key.id, .str c.key.root, .bool c.info.basic, .bool c.info.ca, .int .i64 c.info.plen, .int .i64 c.info.usage, strV c.info.purposes, strV c.info.policies, mpsV c.info.maps, .int .i64 c.info.rexp, .int .i64 c.info.imap, .int .i64 c.info.iany, gnsV c.info.names, .bool c.info.hasC, gnsV c.info.cons.p, gnsV c.info.cons.x, .str c.info.sk, .str c.info.ak, ptsV c.info.points, ptsV c.info.fresh, exsV c.info.unk, .str c.sig] : V) :: (.sl ls.length C : V) :: (.agg [.int .i64 i, .int .i64 q] : V) :: zJ 71) rfl ?_; dsimp only [zJ]
     ·repeat' (first | ((first | refine ZuU ?_ | (refine ZvU ?_ ?_; (focus (simp [h1, h1q, hln, hi2, hq1, hq2]; done)))); intro K9 h9; simp (disch := first | exact dd | fail) [h1, h1q, hln, hi2, hq1, hq2]; refine Zm ?_; ((first | refine Zc hfq ?_ | refine Zc hfi ?_ | skip) <;> (refine ZfU h9 ?_; clear h9 K9))) | refine ZtU ?_ | refine Y8 fun K hK => ?_ | (apply hK; clear hK K) | ((first | refine Zk (ops := #[_, _, _, _, _, _, _, _, _, _, _, _, _, _, _]) 0 [0, 0, 0, 0, 0, 0, 0, 0, 0, 1, 0, 0, 0, 0, 0] ?_ | refine Zk 0 [] ?_); refine Zl ?_) | (refine Yb rfl ?_ ?_ <;> intro hcnd <;> (try simp at hcnd) <;> try exact dc) | (refine ZnU ?_ ?_; (focus (simp [h1, h1q, hln, hi2, hq1, hq2]; done)); refine ZsU ?_) | refine Zx ?_ | clear hK K)
      exact .pure .int
     ·exact .int
   ·rw [show fndV (some e) = .tup [.agg [.int .i64 e.serial, .int .i64 e.time, .int .i64 e.reason, .int .i64 e.inv, nmV e.issuer], .bool true] from rfl] at hfi
    by_cases r8 : e.reason = 8
    ·rw [r8] at hfi
     rw [show vdR (some e) = 1 by simp [vdR, r8]]
     ·refine pcall_body func22 rfl call22 ?_ ?_
      rotate_left 1
      refine awp_slots (s' := (.agg [.str c.raw, .str c.tbs, .int .i64 c.serial, nmV c.issuer, nmV c.subject, .int .i64 c.nb, .int .i64 c.na, .int .i64 c.key.h, .str c.key.id, .str c.key.root, .bool c.info.basic, .bool c.info.ca, .int .i64 c.info.plen, .int .i64 c.info.usage, strV c.info.purposes, strV c.info.policies, mpsV c.info.maps, .int .i64 c.info.rexp, .int .i64 c.info.imap, .int .i64 c.info.iany, gnsV c.info.names, .bool c.info.hasC, gnsV c.info.cons.p, gnsV c.info.cons.x, .str c.info.sk, .str c.info.ak, ptsV c.info.points, ptsV c.info.fresh, exsV c.info.unk, .str c.sig] : V) :: (.sl ls.length C : V) :: (.agg [.int .i64 i, .int .i64 q] : V) :: zJ 71) rfl ?_; dsimp only [zJ]
      ·repeat' (first | ((first | refine ZuU ?_ | (refine ZvU ?_ ?_; (focus (simp [h1, h1q, hln, hi2, hq1, hq2]; done)))); intro K9 h9; simp (disch := first | exact dd | fail) [h1, h1q, hln, hi2, hq1, hq2]; refine Zm ?_; ((first | refine Zc hfq ?_ | refine Zc hfi ?_ | skip) <;> (refine ZfU h9 ?_; clear h9 K9))) | refine ZtU ?_ | refine Y8 fun K hK => ?_ | (apply hK; clear hK K) | ((first | refine Zk (ops := #[_, _, _, _, _, _, _, _, _, _, _, _, _, _, _]) 0 [0, 0, 0, 0, 0, 0, 0, 0, 0, 1, 0, 0, 0, 0, 0] ?_ | refine Zk 0 [] ?_); refine Zl ?_) | (refine Yb rfl ?_ ?_ <;> intro hcnd <;> (try simp at hcnd) <;> try exact dc) | (refine ZnU ?_ ?_; (focus (simp [h1, h1q, hln, hi2, hq1, hq2]; done)); refine ZsU ?_) | refine Zx ?_ | clear hK K)
       exact .pure .int
      ·exact .int
    ·by_cases r6 : e.reason = 6
     ·rw [r6] at hfi
      rw [show vdR (some e) = 3 by simp [vdR, r6]]
      ·refine pcall_body func22 rfl call22 ?_ ?_
       rotate_left 1
       refine awp_slots (s' := (.agg [.str c.raw, .str c.tbs, .int .i64 c.serial, nmV c.issuer, nmV c.subject, .int .i64 c.nb, .int .i64 c.na, .int .i64 c.key.h, .str c.key.id, .str c.key.root, .bool c.info.basic, .bool c.info.ca, .int .i64 c.info.plen, .int .i64 c.info.usage, strV c.info.purposes, strV c.info.policies, mpsV c.info.maps, .int .i64 c.info.rexp, .int .i64 c.info.imap, .int .i64 c.info.iany, gnsV c.info.names, .bool c.info.hasC, gnsV c.info.cons.p, gnsV c.info.cons.x, .str c.info.sk, .str c.info.ak, ptsV c.info.points, ptsV c.info.fresh, exsV c.info.unk, .str c.sig] : V) :: (.sl ls.length C : V) :: (.agg [.int .i64 i, .int .i64 q] : V) :: zJ 71) rfl ?_; dsimp only [zJ]
       ·repeat' (first | ((first | refine ZuU ?_ | (refine ZvU ?_ ?_; (focus (simp [h1, h1q, hln, hi2, hq1, hq2]; done)))); intro K9 h9; simp (disch := first | exact dd | fail) [h1, h1q, hln, hi2, hq1, hq2]; refine Zm ?_; ((first | refine Zc hfq ?_ | refine Zc hfi ?_ | skip) <;> (refine ZfU h9 ?_; clear h9 K9))) | refine ZtU ?_ | refine Y8 fun K hK => ?_ | (apply hK; clear hK K) | ((first | refine Zk (ops := #[_, _, _, _, _, _, _, _, _, _, _, _, _, _, _]) 0 [0, 0, 0, 0, 0, 0, 0, 0, 0, 1, 0, 0, 0, 0, 0] ?_ | refine Zk 0 [] ?_); refine Zl ?_) | (refine Yb rfl ?_ ?_ <;> intro hcnd <;> (try simp at hcnd) <;> try exact dc) | (refine ZnU ?_ ?_; (focus (simp [h1, h1q, hln, hi2, hq1, hq2]; done)); refine ZsU ?_) | refine Zx ?_ | clear hK K)
        exact .pure .int
       ·exact .int
     ·rw [show vdR (some e) = 2 by simp [vdR, r6, r8]]
      ·refine pcall_body func22 rfl call22 ?_ ?_
       rotate_left 1
       refine awp_slots (s' := (.agg [.str c.raw, .str c.tbs, .int .i64 c.serial, nmV c.issuer, nmV c.subject, .int .i64 c.nb, .int .i64 c.na, .int .i64 c.key.h, .str c.key.id, .str c.key.root, .bool c.info.basic, .bool c.info.ca, .int .i64 c.info.plen, .int .i64 c.info.usage, strV c.info.purposes, strV c.info.policies, mpsV c.info.maps, .int .i64 c.info.rexp, .int .i64 c.info.imap, .int .i64 c.info.iany, gnsV c.info.names, .bool c.info.hasC, gnsV c.info.cons.p, gnsV c.info.cons.x, .str c.info.sk, .str c.info.ak, ptsV c.info.points, ptsV c.info.fresh, exsV c.info.unk, .str c.sig] : V) :: (.sl ls.length C : V) :: (.agg [.int .i64 i, .int .i64 q] : V) :: zJ 71) rfl ?_; dsimp only [zJ]
       ·repeat' (first | ((first | refine ZuU ?_ | (refine ZvU ?_ ?_; (focus (simp [h1, h1q, hln, hi2, hq1, hq2, r6, r8]; done)))); intro K9 h9; simp (disch := first | exact dd | fail) [h1, h1q, hln, hi2, hq1, hq2, r6, r8]; refine Zm ?_; ((first | refine Zc hfq ?_ | refine Zc hfi ?_ | skip) <;> (refine ZfU h9 ?_; clear h9 K9))) | refine ZtU ?_ | refine Y8 fun K hK => ?_ | (apply hK; clear hK K) | ((first | refine Zk (ops := #[_, _, _, _, _, _, _, _, _, _, _, _, _, _, _]) 0 [0, 0, 0, 0, 0, 0, 0, 0, 0, 1, 0, 0, 0, 0, 0] ?_ | refine Zk 0 [] ?_); refine Zl ?_) | (refine Yb rfl ?_ ?_ <;> intro hcnd <;> (try simp at hcnd) <;> try exact dc) | (refine ZnU ?_ ?_; (focus (simp [h1, h1q, hln, hi2, hq1, hq2, r6, r8]; done)); refine ZsU ?_) | refine Zx ?_ | clear hK K)
        exact .pure .int
       ·exact .int
  ·rw [Option.some_or]
   ·rw [show fndV (some e) = .tup [.agg [.int .i64 e.serial, .int .i64 e.time, .int .i64 e.reason, .int .i64 e.inv, nmV e.issuer], .bool true] from rfl] at hfq
    by_cases r8 : e.reason = 8
    ·rw [r8] at hfq
     rw [show vdR (some e) = 1 by simp [vdR, r8]]
     ·refine pcall_body func22 rfl call22 ?_ ?_
      rotate_left 1
      refine awp_slots (s' := (.agg [.str c.raw, .str c.tbs, .int .i64 c.serial, nmV c.issuer, nmV c.subject, .int .i64 c.nb, .int .i64 c.na, .int .i64 c.key.h, .str c.key.id, .str c.key.root, .bool c.info.basic, .bool c.info.ca, .int .i64 c.info.plen, .int .i64 c.info.usage, strV c.info.purposes, strV c.info.policies, mpsV c.info.maps, .int .i64 c.info.rexp, .int .i64 c.info.imap, .int .i64 c.info.iany, gnsV c.info.names, .bool c.info.hasC, gnsV c.info.cons.p, gnsV c.info.cons.x, .str c.info.sk, .str c.info.ak, ptsV c.info.points, ptsV c.info.fresh, exsV c.info.unk, .str c.sig] : V) :: (.sl ls.length C : V) :: (.agg [.int .i64 i, .int .i64 q] : V) :: zJ 71) rfl ?_; dsimp only [zJ]
      ·repeat' (first | ((first | refine ZuU ?_ | (refine ZvU ?_ ?_; (focus (simp [h1, h1q, hln, hi2, hq1, hq2]; done)))); intro K9 h9; simp (disch := first | exact dd | fail) [h1, h1q, hln, hi2, hq1, hq2]; refine Zm ?_; ((first | refine Zc hfq ?_ | skip) <;> (refine ZfU h9 ?_; clear h9 K9))) | refine ZtU ?_ | refine Y8 fun K hK => ?_ | (apply hK; clear hK K) | ((first | refine Zk (ops := #[_, _, _, _, _, _, _, _, _, _, _, _, _, _, _]) 0 [0, 0, 0, 0, 0, 0, 0, 0, 0, 1, 0, 0, 0, 0, 0] ?_ | refine Zk 0 [] ?_); refine Zl ?_) | (refine Yb rfl ?_ ?_ <;> intro hcnd <;> (try simp at hcnd) <;> try exact dc) | (refine ZnU ?_ ?_; (focus (simp [h1, h1q, hln, hi2, hq1, hq2]; done)); refine ZsU ?_) | refine Zx ?_ | clear hK K)
       exact .pure .int
      ·exact .int
    ·by_cases r6 : e.reason = 6
     ·rw [r6] at hfq
      rw [show vdR (some e) = 3 by simp [vdR, r6]]
      ·refine pcall_body func22 rfl call22 ?_ ?_
       rotate_left 1
       refine awp_slots (s' := (.agg [.str c.raw, .str c.tbs, .int .i64 c.serial, nmV c.issuer, nmV c.subject, .int .i64 c.nb, .int .i64 c.na, .int .i64 c.key.h, .str c.key.id, .str c.key.root, .bool c.info.basic, .bool c.info.ca, .int .i64 c.info.plen, .int .i64 c.info.usage, strV c.info.purposes, strV c.info.policies, mpsV c.info.maps, .int .i64 c.info.rexp, .int .i64 c.info.imap, .int .i64 c.info.iany, gnsV c.info.names, .bool c.info.hasC, gnsV c.info.cons.p, gnsV c.info.cons.x, .str c.info.sk, .str c.info.ak, ptsV c.info.points, ptsV c.info.fresh, exsV c.info.unk, .str c.sig] : V) :: (.sl ls.length C : V) :: (.agg [.int .i64 i, .int .i64 q] : V) :: zJ 71) rfl ?_; dsimp only [zJ]
       ·repeat' (first | ((first | refine ZuU ?_ | (refine ZvU ?_ ?_; (focus (simp [h1, h1q, hln, hi2, hq1, hq2]; done)))); intro K9 h9; simp (disch := first | exact dd | fail) [h1, h1q, hln, hi2, hq1, hq2]; refine Zm ?_; ((first | refine Zc hfq ?_ | skip) <;> (refine ZfU h9 ?_; clear h9 K9))) | refine ZtU ?_ | refine Y8 fun K hK => ?_ | (apply hK; clear hK K) | ((first | refine Zk (ops := #[_, _, _, _, _, _, _, _, _, _, _, _, _, _, _]) 0 [0, 0, 0, 0, 0, 0, 0, 0, 0, 1, 0, 0, 0, 0, 0] ?_ | refine Zk 0 [] ?_); refine Zl ?_) | (refine Yb rfl ?_ ?_ <;> intro hcnd <;> (try simp at hcnd) <;> try exact dc) | (refine ZnU ?_ ?_; (focus (simp [h1, h1q, hln, hi2, hq1, hq2]; done)); refine ZsU ?_) | refine Zx ?_ | clear hK K)
        exact .pure .int
       ·exact .int
     ·rw [show vdR (some e) = 2 by simp [vdR, r6, r8]]
      ·refine pcall_body func22 rfl call22 ?_ ?_
       rotate_left 1
       refine awp_slots (s' := (.agg [.str c.raw, .str c.tbs, .int .i64 c.serial, nmV c.issuer, nmV c.subject, .int .i64 c.nb, .int .i64 c.na, .int .i64 c.key.h, .str c.key.id, .str c.key.root, .bool c.info.basic, .bool c.info.ca, .int .i64 c.info.plen, .int .i64 c.info.usage, strV c.info.purposes, strV c.info.policies, mpsV c.info.maps, .int .i64 c.info.rexp, .int .i64 c.info.imap, .int .i64 c.info.iany, gnsV c.info.names, .bool c.info.hasC, gnsV c.info.cons.p, gnsV c.info.cons.x, .str c.info.sk, .str c.info.ak, ptsV c.info.points, ptsV c.info.fresh, exsV c.info.unk, .str c.sig] : V) :: (.sl ls.length C : V) :: (.agg [.int .i64 i, .int .i64 q] : V) :: zJ 71) rfl ?_; dsimp only [zJ]
       ·repeat' (first | ((first | refine ZuU ?_ | (refine ZvU ?_ ?_; (focus (simp [h1, h1q, hln, hi2, hq1, hq2, r6, r8]; done)))); intro K9 h9; simp (disch := first | exact dd | fail) [h1, h1q, hln, hi2, hq1, hq2, r6, r8]; refine Zm ?_; ((first | refine Zc hfq ?_ | skip) <;> (refine ZfU h9 ?_; clear h9 K9))) | refine ZtU ?_ | refine Y8 fun K hK => ?_ | (apply hK; clear hK K) | ((first | refine Zk (ops := #[_, _, _, _, _, _, _, _, _, _, _, _, _, _, _]) 0 [0, 0, 0, 0, 0, 0, 0, 0, 0, 1, 0, 0, 0, 0, 0] ?_ | refine Zk 0 [] ?_); refine Zl ?_) | (refine Yb rfl ?_ ?_ <;> intro hcnd <;> (try simp at hcnd) <;> try exact dc) | (refine ZnU ?_ ?_; (focus (simp [h1, h1q, hln, hi2, hq1, hq2, r6, r8]; done)); refine ZsU ?_) | refine Zx ?_ | clear hK K)
        exact .pure .int
       ·exact .int
end Go.Proofs.YtnpndfmbkmbhbaaGreatDoor

