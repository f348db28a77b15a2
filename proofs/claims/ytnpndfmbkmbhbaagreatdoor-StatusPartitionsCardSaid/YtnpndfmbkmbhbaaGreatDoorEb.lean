/-
 STATUS: lists signed by signers; entries found by the program.
 Conditions: none.
-/
import Derived.Test.YtnpndfmbkmbhbaaGreatDoorEa
set_option maxRecDepth 100000
set_option maxHeartbeats 32000000
set_option linter.all false
namespace Go.Sta
open Go.VS Go.Stp Go.Proofs.YtnpndfmbkmbhbaaGreatDoor
structure WSt (l : Li) : Prop where
 k : WLk l
 t : l.tbs.length ≤ 1000
 s : l.sig.length ≤ 100000
 e : WEn l.entries
structure WAn (s : An) : Prop where
 n : WN s.n
 i : s.k.id.length ≤ 1000
 r : s.k.root.length ≤ 1000
theorem anS_len (l : List An) : (l.flatMap An.c).length = l.length * 4 := flat_len (f := An.c) (fun _ => rfl) l
theorem anS_at (l : List An) (i : Nat) (h : i < l.length) : ((l.flatMap An.c).drop (i * 4)).take 4 = l[i].c := flat_at (f := An.c) (fun _ => rfl) l i h
end Go.Sta
namespace Go.Proofs.YtnpndfmbkmbhbaaGreatDoor
open Go.Proofs.Tryz
open Go.VS Go.Stp Go.Sta
attribute [local irreducible] arun arunD arunU AWp aend verE
theorem cverify_call (l : Li) (k : Ky) (hl : WSt l) (hi : k.id.length ≤ 1000) (hr : k.root.length ≤ 1000) : PCall prog 71 [.agg l.c, .agg k.c] (.int .i64 (verE k.h k.id k.root l.tbs l.sig)) := by
 have ht := hl.t
 have hs := hl.s
 have hv := verify_call k.h k.id k.root l.tbs l.sig (by omega) (by omega) ht (by omega)
 generalize verE k.h k.id k.root l.tbs l.sig = R at *
 unfold Li.c Ky.c
 refine pcall_body func71 rfl call71 ?_ ?_
 rotate_left 1
 refine awp_slots (s' := (.agg [.str l.raw, .str l.tbs, nmV l.issuer, .int .i64 l.this, .int .i64 l.next, .int .i64 l.number, .int .i64 l.base, .str l.ak, .bool l.has, gnsV l.sc.names, .bool l.sc.ou, .bool l.sc.oc, .int .i64 l.sc.reasons, .bool l.sc.ind, ptsV l.fresh, ensV l.entries, .str l.sig] : V) :: (.agg [.int .i64 k.h, .str k.id, .str k.root] : V) :: zJ 9) rfl ?_; dsimp only [zJ]
 ·repeat' (first | (refine Zu ?_; intro K9 h9; refine Zd ?_; ((first | refine Ap hv ?_ | skip) <;> (refine Zf h9 ?_; clear h9 K9))) | refine Zt ?_ | refine Y8 fun K hK => ?_ | (apply hK; clear hK K) | refine Zx ?_ | clear hK K)
  exact .pure .int
 ·exact .int
theorem ssigned_call (l : Li) (ss : List An) (hl : WSt l) (hn : ss.length ≤ 65536) (hw : ∀ s ∈ ss, WAn s) : PCall prog 38 [.agg l.c, ansV ss] (.bool (sgdB l ss)) := by
 have hcl := anS_len ss
 have hat := anS_at ss
 have hT : ∀ i (hi : i < ss.length), sg1 l ss[i] = true → sgdB l ss = true := fun i hi h => any_true hi h
 have hF : (∀ j (h : j < ss.length), sg1 l ss[j] = false) → sgdB l ss = false := fun h => any_false h
 have hdm : ∀ s ∈ ss, PCall prog 41 [.agg [nmV s.n], .agg [nmV l.issuer]] (.bool (nameB s.n l.issuer)) := fun s hs => dmatch_call s.n l.issuer (hw s hs).n hl.k.issuer
 have hvf : ∀ s ∈ ss, PCall prog 71 [.agg l.c, .agg s.k.c] (.int .i64 (verE s.k.h s.k.id s.k.root l.tbs l.sig)) := fun s hs => cverify_call l s.k hl (hw s hs).i (hw s hs).r
 have hsg : ∀ s, sg1 l s = (nameB s.n l.issuer && decide (verE s.k.h s.k.id s.k.root l.tbs l.sig = 0)) := fun _ => rfl
 rw [show ansV ss = .sl ss.length (ss.flatMap An.c) from rfl]
 generalize sgdB l ss = R at *
 unfold Li.c at *
 refine pcall_body func38 rfl call38 ?_ ?_
 rotate_left 1
 refine awp_slots (s' := (.agg [.str l.raw, .str l.tbs, nmV l.issuer, .int .i64 l.this, .int .i64 l.next, .int .i64 l.number, .int .i64 l.base, .str l.ak, .bool l.has, gnsV l.sc.names, .bool l.sc.ou, .bool l.sc.oc, .int .i64 l.sc.reasons, .bool l.sc.ind, ptsV l.fresh, ensV l.entries, .str l.sig] : V) :: (.sl ss.length (ss.flatMap An.c) : V) :: zJ 24) rfl ?_; dsimp only [zJ]
 ·repeat' (first | refine Zr ?_ | refine Zt ?_ | refine Y8 fun K hK => ?_ | (apply hK; clear hK K) | (refine Yb rfl ?_ ?_ <;> intro hcnd <;> (try simp at hcnd) <;> try exact dc) | refine Zo ?_ | refine Zx ?_ | clear hK K)
  refine awp_loopU (α := Nat) (fun i => (zS 2 (zN 2 (some V.junk :: none :: some V.junk :: zN 2 (some (V.int .i64 i) :: zS 16 []))))) (fun i => [.live [.str l.raw, .str l.tbs, nmV l.issuer, .int .i64 l.this, .int .i64 l.next, .int .i64 l.number, .int .i64 l.base, .str l.ak, .bool l.has, gnsV l.sc.names, .bool l.sc.ou, .bool l.sc.oc, .int .i64 l.sc.reasons, .bool l.sc.ind, ptsV l.fresh, ensV l.entries, .str l.sig]]) (fun i => i ≤ ss.length ∧ ∀ j (h : j < ss.length), j < i → sg1 l ss[j] = false) (fun i => ss.length - i) 0 ⟨by omega, fun j _ h => by omega⟩ ?_ ?_
  ·dsimp only [ups, zN, zS]
   exact Yr [some 0] (by simp [rowsOver, rowRen_live, rens_pures])
  rintro i ⟨hi, hall⟩ KL hL
  dsimp only [ups, zN, zS]
  rcases Nat.lt_or_ge i ss.length with hi | hi
  ·have ha := hat i hi
   have hd := hdm _ (List.getElem_mem hi)
   have hv := hvf _ (List.getElem_mem hi)
   have ht := hT i hi
   have hs1 := hsg ss[i]
   have hstep : sg1 l ss[i] = false → i + 1 ≤ ss.length ∧ ∀ j (h : j < ss.length), j < i + 1 → sg1 l ss[j] = false := fun hb => ⟨by omega, fun j hj h => by
    rcases Nat.lt_or_ge j i with h3 | h3
    ·exact hall j hj h3
    ·obtain rfl : j = i := by omega
     exact hb⟩
   obtain ⟨x, hxx⟩ : ∃ x, ss[i] = x := ⟨_, rfl⟩
   rw [hxx] at ha hd hv ht hs1 hstep
   generalize ss.flatMap An.c = C at *
   obtain ⟨xn, xk⟩ := x
   obtain ⟨xh, xid, xr⟩ := xk
   unfold An.c at ha
   unfold Ky.c at hv
   dsimp only at ha hd hv hs1
   generalize nameB xn l.issuer = b at *
   generalize verE xh xid xr l.tbs l.sig = e at *
   cases b
   ·repeat' (first | ((first | refine ZuU ?_ | (refine ZvU ?_ ?_; (focus (simp [ha, hcl]; done)))); intro K9 h9; simp (disch := first | exact dd | fail) [ha, hcl]; refine Zm ?_; ((first | refine Ap hd ?_ | skip) <;> (refine ZfU h9 ?_; clear h9 K9))) | refine ZtU ?_ | refine Y8 fun K hK => ?_ | (apply hK; clear hK K) | (refine Yb rfl ?_ ?_ <;> intro hcnd <;> (try simp at hcnd) <;> try exact dc) | (refine ZnU ?_ ?_; (focus (simp [ha, hcl]; done)); refine ZsU ?_) | refine Zx ?_ | clear hK K)
    refine hL (i + 1) _ _ (hstep (by simp [hs1])) (by omega) ?_
    exact Yr [some 0] (by simp [rowsOver, rowRen_live, rens_pures])
   ·by_cases he : e = 0
    ·have hr := ht (by simp [hs1, he])
     subst he
     repeat' (first | ((first | refine ZuU ?_ | (refine ZvU ?_ ?_; (focus (simp [ha, hcl]; done)))); intro K9 h9; simp (disch := first | exact dd | fail) [ha, hcl]; refine Zm ?_; ((first | refine Ap hd ?_ | refine Ap hv ?_ | skip) <;> (refine ZfU h9 ?_; clear h9 K9))) | refine ZtU ?_ | refine Y8 fun K hK => ?_ | (apply hK; clear hK K) | (refine Yb rfl ?_ ?_ <;> intro hcnd <;> (try simp at hcnd) <;> try exact dc) | (refine ZnU ?_ ?_; (focus (simp [ha, hcl]; done)); refine ZsU ?_) | refine Zx ?_ | clear hK K)
     rw [hr]
     exact .pure .bool
    ·repeat' (first | ((first | refine ZuU ?_ | (refine ZvU ?_ ?_; (focus (simp [ha, hcl, he]; done)))); intro K9 h9; simp (disch := first | exact dd | fail) [ha, hcl, he]; refine Zm ?_; ((first | refine Ap hd ?_ | refine Ap hv ?_ | skip) <;> (refine ZfU h9 ?_; clear h9 K9))) | refine ZtU ?_ | refine Y8 fun K hK => ?_ | (apply hK; clear hK K) | (refine Yb rfl ?_ ?_ <;> intro hcnd <;> (try simp at hcnd) <;> try exact dc) | (refine ZnU ?_ ?_; (focus (simp [ha, hcl, he]; done)); refine ZsU ?_) | refine Zx ?_ | clear hK K)
     refine hL (i + 1) _ _ (hstep (by simp [hs1, he])) (by omega) ?_
     exact Yr [some 0] (by simp [rowsOver, rowRen_live, rens_pures])
  ·have hr := hF fun j hj => hall j hj (by omega)
   repeat' (first | refine Zr ?_ | refine Zt ?_ | refine Y8 fun K hK => ?_ | (apply hK; clear hK K) | (refine Yb rfl ?_ ?_ <;> intro hcnd <;> (try simp at hcnd) <;> try exact dc) | refine Zo ?_ | refine Zx ?_ | clear hK K)
   rw [hr]
   exact .pure .bool
 ·exact .bool
end Go.Proofs.YtnpndfmbkmbhbaaGreatDoor
namespace Go.Sta
open Go.VS Go.Stp Go.Proofs.YtnpndfmbkmbhbaaGreatDoor
theorem map_take_snc {α β : Type} {f : α → β} (l : List α) (i : Nat) (h : i < l.length) : (l.take (i + 1)).map f = (l.take i).map f ++ [f l[i]] := by
 rw [List.take_succ_eq_append_getElem h, List.map_append]; simp
def zEn : List V := [.int .i64 0, .int .i64 0, .int .i64 0, .int .i64 0, .nils]
def fndV : Option En → V
 | none => .tup [.agg zEn, .bool false]
 | some e => .tup [.agg e.c, .bool true]
theorem plc_fnd {c : Ce} {l : Li} : (plcI l.entries c.issuer c.serial = -1 ∧ fndE c l = none) ∨ ∃ (i : Nat) (h : i < l.entries.length), plcI l.entries c.issuer c.serial = i ∧ fndE c l = some l.entries[i] := by
 unfold plcI fndE findI
 rw [List.find?_eq_getElem?_findIdx]
 have e : (fun e : En => decide (e.serial = c.serial) && nameB e.issuer c.issuer) = entB c := rfl
 rw [e]
 rcases Nat.lt_or_ge (l.entries.findIdx (entB c)) l.entries.length with h | h
 ·right
  refine ⟨_, h, ?_, by simp [h]⟩
  rw [List.findIdx?_eq_some_iff_findIdx_eq.2 ⟨h, rfl⟩]
 ·left
  have h1 : l.entries.findIdx (entB c) = l.entries.length := Nat.le_antisymm (List.findIdx_le_length) h
  refine ⟨?_, by simp [h1]⟩
  rw [List.findIdx?_eq_none_iff_findIdx_eq.2 h1]
end Go.Sta
namespace Go.Proofs.YtnpndfmbkmbhbaaGreatDoor
open Go.Proofs.Tryz
open Go.VS Go.Stp Go.Sta
attribute [local irreducible] arun arunD arunU AWp aend verE
theorem ccopy_call (n : Nm) (hx : WN n) : PCall prog 65 [.agg [nmV n]] (.agg [nmV n]) := by
 obtain ⟨hl, hx2⟩ := hx
 rw [show nmV n = .sl n.length (n.map atsV) from rfl]
 refine pcall_body func65 rfl call65 ?_ ?_
 rotate_left 1
 refine awp_slots (s' := (.agg [.sl n.length (n.map atsV)] : V) :: zJ 20) rfl ?_; dsimp only [zJ]
 ·repeat' (first | refine Zq ?_ | refine Zt ?_ | refine Y8 fun K hK => ?_ | (apply hK; clear hK K) | (refine Yb rfl ?_ ?_ <;> intro hcnd <;> (try simp at hcnd) <;> try exact dc) | refine Zx ?_ | clear hK K)
  refine awp_countU (fun i => (zS 2 (none :: some (V.osl 2 0 i 1) :: none :: zS 2 (zN 2 (some (V.int .i64 i) :: zS 11 []))))) (fun i => [.live [.sl n.length (n.map atsV)], .live [.nils], .live ((n.take i).map atsV)]) n.length ?_ fun i hi KL hL => ?_
  ·dsimp only [ups, zN, zS]
   exact Yr [some 0, some 1, none] (by simp [rowsOver])
  dsimp only [ups, zN, zS]
  rcases Nat.lt_or_ge i n.length with hi | hi
  ·have hml := (hx2 _ (List.getElem_mem hi)).1
   have hsucc := map_take_snc (f := atsV) n i hi
   rw [hsucc] at hL
   clear hsucc
   have hll := ats_len n[i]
   have hpu := ats_pures n[i]
   have hon := flat_one At.c_one n[i]
   have htl : ((n.take i).map atsV).length = i := by simp; omega
   have htp : Pures ((n.take i).map atsV) := nms_pures _
   obtain ⟨y, hy⟩ : ∃ y, n[i] = y := ⟨_, rfl⟩
   rw [hy] at hml hL hll hpu hon
   have hyV : atsV y = .sl y.length (y.flatMap At.c) := rfl
   rw [hyV] at hL
   generalize y.flatMap At.c = cy at *
   iterate 9 (first | (refine Zu ?_; intro K9 h9; simp (disch := first | exact dd | fail) [hy, hyV]; refine Zm ?_; refine Zf h9 ?_; clear h9 K9) | refine Zt ?_ | refine Y8 fun K hK => ?_ | (apply hK; clear hK K) | (refine Yb rfl ?_ ?_ <;> intro hcnd <;> (try simp at hcnd) <;> try exact dc) | refine Zx ?_ | (clear hK K; first | (apply hK; clear hK K) | (clear hK K; first | (apply hK; clear hK K) | (clear hK K; first | (apply hK; clear hK K) | (clear hK K; apply hK; clear hK K)))))
   refine awp_seq fun K0 hK0 => ?_
   repeat' (first | (refine Zu ?_; intro K9 h9; simp (disch := first | exact dd | fail) [hy, hyV, hll, hon]; refine Zm ?_; refine Zf h9 ?_; clear h9 K9) | refine Zt ?_ | refine Y8 fun K hK => ?_ | (apply hK; clear hK K) | (refine Yb rfl ?_ ?_ <;> intro hcnd <;> (try simp at hcnd) <;> try exact dc) | refine Zx ?_ | clear hK K)
   refine hK0 _ _ ?_
   clear hK0 K0
   refine awp_freeze' 3 rfl hpu (by simp [fz, ← hll]; rfl) (by simp [fzRow, fz, ← hll, fz_map (nms_pures n), fz_map htp]; rfl) ?_
   repeat' (first | refine Zq ?_ | refine Zt ?_ | refine Y8 fun K hK => ?_ | (apply hK; clear hK K) | (refine Yb rfl ?_ ?_ <;> intro hcnd <;> (try simp at hcnd) <;> try exact dc) | refine Zx ?_ | clear hK K)
   have hp3 : Pures (List.take i (List.map atsV n) ++ [V.sl y.length cy]) := by simp [pures_take (nms_pures n)]
   refine hL _ _ hi ?_
   exact Yr [some 0, some 1, some 5] (by simp [rowsOver, rowRen_live, List.map_take, List.take_take, rens_pures hp3])
  ·obtain rfl : i = n.length := by omega
   repeat' (first | refine Zq ?_ | refine Zt ?_ | refine Y8 fun K hK => ?_ | (apply hK; clear hK K) | (refine Yb rfl ?_ ?_ <;> intro hcnd <;> (try simp at hcnd) <;> try exact dc) | refine Zx ?_ | clear hK K)
   simp
   refine view_agg ⟨view_row rfl (by simp) (nms_pures n), trivial⟩
 ·simp
theorem cfind_call (c : Ce) (l : Li) (hl : WSt l) (hc : WN c.issuer) : PCall prog 35 [.agg l.c, .agg [nmV c.issuer], .int .i64 c.serial] (fndV (fndE c l)) := by
 have hp := place_call l.entries c.issuer c.serial hl.e hc
 have hcl := ens_len l.entries
 have hat := ens_at l.entries
 unfold Li.c
 rw [show ensV l.entries = .sl l.entries.length (l.entries.flatMap En.c) from rfl] at *
 rcases plc_fnd (c := c) (l := l) with ⟨h1, h2⟩ | ⟨i, hi, h1, h2⟩
 ·rw [h1] at hp
  rw [h2]
  unfold fndV zEn
  refine pcall_body func35 rfl call35 ?_ ?_
  rotate_left 1
  refine awp_slots (s' := (.agg [.str l.raw, .str l.tbs, nmV l.issuer, .int .i64 l.this, .int .i64 l.next, .int .i64 l.number, .int .i64 l.base, .str l.ak, .bool l.has, gnsV l.sc.names, .bool l.sc.ou, .bool l.sc.oc, .int .i64 l.sc.reasons, .bool l.sc.ind, ptsV l.fresh, .sl l.entries.length (l.entries.flatMap En.c), .str l.sig] : V) :: (.agg [nmV c.issuer] : V) :: (.int .i64 c.serial : V) :: zJ 25) rfl ?_; dsimp only [zJ]
  ·repeat' (first | (refine Zu ?_; intro K9 h9; refine Zd ?_; ((first | refine Ap hp ?_ | skip) <;> (refine Zf h9 ?_; clear h9 K9))) | refine Zt ?_ | refine Y8 fun K hK => ?_ | (apply hK; clear hK K) | (refine Yb rfl ?_ ?_ <;> intro hcnd <;> (try simp at hcnd) <;> try exact dc) | refine Zx ?_ | clear hK K)
   simp
   exact .pure (by simp)
  ·exact .tup (by simp)
 ·rw [h1] at hp
  rw [h2]
  have ha := hat i hi
  have hw := hl.e.2 _ (List.getElem_mem hi)
  obtain ⟨x, hxx⟩ : ∃ x, l.entries[i] = x := ⟨_, rfl⟩
  rw [hxx] at ha hw ⊢
  have hcp := ccopy_call x.issuer hw
  unfold fndV
  generalize l.entries.flatMap En.c = C at *
  unfold En.c at ha ⊢
  refine pcall_body func35 rfl call35 ?_ ?_
  rotate_left 1
  refine awp_slots (s' := (.agg [.str l.raw, .str l.tbs, nmV l.issuer, .int .i64 l.this, .int .i64 l.next, .int .i64 l.number, .int .i64 l.base, .str l.ak, .bool l.has, gnsV l.sc.names, .bool l.sc.ou, .bool l.sc.oc, .int .i64 l.sc.reasons, .bool l.sc.ind, ptsV l.fresh, .sl l.entries.length C, .str l.sig] : V) :: (.agg [nmV c.issuer] : V) :: (.int .i64 c.serial : V) :: zJ 25) rfl ?_; dsimp only [zJ]
  ·repeat' (first | (refine Zu ?_; intro K9 h9; simp (disch := first | exact dd | fail) [ha, hcl]; refine Zm ?_; ((first | refine Ap hp ?_ | refine Ap hcp ?_ | skip) <;> (refine Zf h9 ?_; clear h9 K9))) | refine Zt ?_ | refine Y8 fun K hK => ?_ | (apply hK; clear hK K) | (refine Yb rfl ?_ ?_ <;> intro hcnd <;> (try simp at hcnd) <;> try exact dc) | refine Zx ?_ | clear hK K)
   simp
   exact .pure (by simp)
  ·exact .tup (by simp)
end Go.Proofs.YtnpndfmbkmbhbaaGreatDoor
