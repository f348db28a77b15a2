/-
 SCOPE: what a list covers (the program).
 Conditions: none.
-/
import Derived.Test.YtnpndfmbkmbhbaaGreatDoorGs
set_option maxRecDepth 100000
set_option maxHeartbeats 32000000
namespace Go.Stp
open Go.VS
def coverM (p : Pt) (l : Li) : Int := if l.has = true then bits .and .i64 (allM p.reasons) (allM l.sc.reasons) else allM p.reasons
def coversS (c : Ce) (p : Pt) (l : Li) : Int × Int :=
 if p.has = true ∧ nameB l.issuer p.issuer = false ∨ p.has = false ∧ nameB l.issuer c.issuer = false then (0, 31)
 else if nameB l.issuer c.issuer = false ∧ ¬ (l.has = true ∧ l.sc.ind = true) then (0, 29)
 else if l.has = true ∧ (l.sc.names.length ≠ 0 ∧ l.sc.names.any (fitsG p) = false ∨ l.sc.ou = true ∧ c.info.ca = true ∨ l.sc.oc = true ∧ c.info.ca = false) then (0, 29)
 else if coverM p l = 0 then (0, 29) else (coverM p l, 0)
def covV (r : Int × Int) : V := .tup [.int .i64 r.1, .int .i64 r.2]
structure WLk (l : Li) : Prop where
 issuer : WN l.issuer
 names : ∀ x ∈ l.sc.names, WGk x
 few : l.sc.names.length ≤ 65536
end Go.Stp
namespace Go.Proofs.YtnpndfmbkmbhbaaGreatDoor
open Go.Proofs.Tryz
open Go.VS Go.Stp
set_option linter.all false
attribute [local irreducible] arun arunD arunU AWp aend bits
theorem covers_call' (c : Ce) (p : Pt) (l : Li) (hc : WN c.issuer) (hpi : WN p.issuer) (hp : l.has = true → WPk p) (hl : WLk l) : PCall prog 37 [.agg c.c, .agg p.c, .agg l.c] (covV (coversS c p l)) := by
 have h1 := dmatch_call l.issuer c.issuer hl.issuer hc
 have h2 := dmatch_call l.issuer p.issuer hl.issuer hpi
 have h3 := fun h : l.has = true => gcontains_call l.sc.names 69 p.c (fitsG p) hl.few fun x hx => covers1_call x p (hl.names x hx) (hp h)
 have hf := hl.few
 have a1 := all_call p.reasons
 have a2 := all_call l.sc.reasons
 have hgv : gnsV l.sc.names = .sl l.sc.names.length (l.sc.names.flatMap Gn.c) := rfl
 rw [show p.c = [gnsV p.names, .int .i64 p.reasons, .bool p.has, nmV p.issuer] from rfl] at *
 rw [Ce.c.eq_1, Li.c.eq_1]
 rw [hgv] at h3 ⊢
 have key : coversS c p l = if p.has = true ∧ nameB l.issuer p.issuer = false ∨ p.has = false ∧ nameB l.issuer c.issuer = false then (0, 31)
  else if nameB l.issuer c.issuer = false ∧ ¬ (l.has = true ∧ l.sc.ind = true) then (0, 29)
  else if l.has = true ∧ (l.sc.names.length ≠ 0 ∧ l.sc.names.any (fitsG p) = false ∨ l.sc.ou = true ∧ c.info.ca = true ∨ l.sc.oc = true ∧ c.info.ca = false) then (0, 29)
  else if (if l.has = true then bits .and .i64 (allM p.reasons) (allM l.sc.reasons) else allM p.reasons) = 0 then (0, 29) else ((if l.has = true then bits .and .i64 (allM p.reasons) (allM l.sc.reasons) else allM p.reasons), 0) := rfl
 rw [key]
 clear key hgv hp
 generalize nameB l.issuer c.issuer = a at *
 generalize nameB l.issuer p.issuer = m at *
 generalize l.sc.names.any (fitsG p) = A at *
 generalize l.sc.names.flatMap Gn.c = cells at *
 generalize l.sc.names.length = n at *
 generalize hph : p.has = ph at *
 generalize hlh : l.has = lh at *
 generalize hind : l.sc.ind = ind at *
 generalize hou : l.sc.ou = ou at *
 generalize hoc : l.sc.oc = oc at *
 generalize hca : c.info.ca = CA at *
 generalize allM p.reasons = mp at *
 generalize allM l.sc.reasons = ml at *
 generalize hR : (ite (ph = true ∧ m = false ∨ ph = false ∧ a = false) _ _ : Int × Int) = R at *
 unfold covV
 refine pcall_body func37 rfl call37 ?_ ?_
 rotate_left 1
 refine awp_slots (s' := (.agg [.str c.raw, .str c.tbs, .int .i64 c.serial, nmV c.issuer, nmV c.subject, .int .i64 c.nb, .int .i64 c.na, .int .i64 c.key.h, .str c.key.id, .str c.key.root, .bool c.info.basic, .bool CA, .int .i64 c.info.plen, .int .i64 c.info.usage, strV c.info.purposes, strV c.info.policies, mpsV c.info.maps, .int .i64 c.info.rexp, .int .i64 c.info.imap, .int .i64 c.info.iany, gnsV c.info.names, .bool c.info.hasC, gnsV c.info.cons.p, gnsV c.info.cons.x, .str c.info.sk, .str c.info.ak, ptsV c.info.points, ptsV c.info.fresh, exsV c.info.unk, .str c.sig] : V) :: (.agg [gnsV p.names, .int .i64 p.reasons, .bool ph, nmV p.issuer] : V) :: (.agg [.str l.raw, .str l.tbs, nmV l.issuer, .int .i64 l.this, .int .i64 l.next, .int .i64 l.number, .int .i64 l.base, .str l.ak, .bool lh, .sl n cells, .bool ou, .bool oc, .int .i64 l.sc.reasons, .bool ind, ptsV l.fresh, ensV l.entries, .str l.sig] : V) :: zJ 87) rfl ?_; dsimp only [zJ]
 refine awp_seq fun K hK => ?_
 repeat' (first | ((first | refine Y0 rfl fun K9 h9 => ?_ | (refine Y3 ?_ ?_; (focus (simp; done)); intro K9 h9)); simp (disch := first | exact dd | fail); (try simp (disch := first | exact de | fail) only [X7]); ((first | refine Ap h1 ?_ | skip) <;> ((repeat (refine Yz ?_)); (first | refine h9 _ _ (Ys ?_)); clear h9 K9))) | refine Y6 ?_ | refine Y9 ?_ | (refine Yb rfl ?_ ?_ <;> intro hcnd <;> (try simp at hcnd) <;> try exact dc) | refine Yc ?_ | (refine Ye ?_; refine Yf ?_) | (refine Yh ?_ ?_; (focus (simp; done)); refine Ys ?_) | refine Yg ?_ | (simp only [X0, Nat.reduceBEq]))
 refine hK _ _ ?_; clear hK K
 refine awp_seq fun K hK => ?_
 repeat' (first | ((first | refine Y0 rfl fun K9 h9 => ?_ | (refine Y3 ?_ ?_; (focus (simp; done)); intro K9 h9)); simp (disch := first | exact dd | fail); (try simp (disch := first | exact de | fail) only [X7]); ((first | refine Ap h1 ?_ | skip) <;> ((repeat (refine Yz ?_)); (first | refine h9 _ _ (Ys ?_)); clear h9 K9))) | refine Y6 ?_ | refine Y9 ?_ | (refine Yb rfl ?_ ?_ <;> intro hcnd <;> (try simp at hcnd) <;> try exact dc) | refine Yc ?_ | (refine Ye ?_; refine Yf ?_) | (refine Yh ?_ ?_; (focus (simp; done)); refine Ys ?_) | refine Yg ?_ | (simp only [X0, Nat.reduceBEq]))
 refine hK _ _ ?_; clear hK K
 refine awp_seqJ fun K1 hK1 hJ1 => ?_
 have main1 : ¬ (ph = true ∧ m = false ∨ ph = false ∧ a = false) → K1 ((V.junk :: V.junk :: V.junk :: (V.ref 0 0) :: (V.ref 1 0) :: (V.ref 2 0) :: V.junk :: V.junk :: (V.bool a) :: V.junk :: V.junk :: V.junk :: V.junk :: V.junk :: V.junk :: V.junk :: V.junk :: V.junk :: V.junk :: V.junk :: V.junk :: V.junk :: V.junk :: V.junk :: V.junk :: V.junk :: V.junk :: V.junk :: V.junk :: V.junk :: V.junk :: V.junk :: V.junk :: V.junk :: V.junk :: V.junk :: V.junk :: V.junk :: V.junk :: V.junk :: V.junk :: V.junk :: V.junk :: V.junk :: V.junk :: V.junk :: V.junk :: V.junk :: V.junk :: V.junk :: V.junk :: V.junk :: V.junk :: V.junk :: V.junk :: V.junk :: V.junk :: V.junk :: V.junk :: V.junk :: V.junk :: V.junk :: V.junk :: V.junk :: V.junk :: V.junk :: V.junk :: V.junk :: V.junk :: V.junk :: V.junk :: V.junk :: V.junk :: V.junk :: V.junk :: V.junk :: V.junk :: V.junk :: V.junk :: V.junk :: V.junk :: V.junk :: V.junk :: V.junk :: V.junk :: V.junk :: V.junk :: V.junk :: V.junk :: V.junk :: [])) [.live [.str c.raw, .str c.tbs, .int .i64 c.serial, nmV c.issuer, nmV c.subject, .int .i64 c.nb, .int .i64 c.na, .int .i64 c.key.h, .str c.key.id, .str c.key.root, .bool c.info.basic, .bool CA, .int .i64 c.info.plen, .int .i64 c.info.usage, strV c.info.purposes, strV c.info.policies, mpsV c.info.maps, .int .i64 c.info.rexp, .int .i64 c.info.imap, .int .i64 c.info.iany, gnsV c.info.names, .bool c.info.hasC, gnsV c.info.cons.p, gnsV c.info.cons.x, .str c.info.sk, .str c.info.ak, ptsV c.info.points, ptsV c.info.fresh, exsV c.info.unk, .str c.sig], .live [gnsV p.names, .int .i64 p.reasons, .bool ph, nmV p.issuer], .live [.str l.raw, .str l.tbs, nmV l.issuer, .int .i64 l.this, .int .i64 l.next, .int .i64 l.number, .int .i64 l.base, .str l.ak, .bool lh, .sl n cells, .bool ou, .bool oc, .int .i64 l.sc.reasons, .bool ind, ptsV l.fresh, ensV l.entries, .str l.sig]] := by
  intro g1
  rw [if_neg g1] at hR
  refine hK1 _ _ ?_
  clear hK1 hJ1
  clear K1 g1 h1 h2
  refine awp_seqJ fun K2 hK2 hJ2 => ?_
  have main2 : ¬ (a = false ∧ ¬ (lh = true ∧ ind = true)) → K2 ((V.junk :: V.junk :: V.junk :: (V.ref 0 0) :: (V.ref 1 0) :: (V.ref 2 0) :: V.junk :: V.junk :: V.junk :: V.junk :: V.junk :: V.junk :: V.junk :: V.junk :: V.junk :: V.junk :: V.junk :: V.junk :: V.junk :: V.junk :: V.junk :: V.junk :: V.junk :: V.junk :: V.junk :: V.junk :: V.junk :: V.junk :: V.junk :: V.junk :: V.junk :: V.junk :: V.junk :: V.junk :: V.junk :: V.junk :: V.junk :: V.junk :: V.junk :: V.junk :: V.junk :: V.junk :: V.junk :: V.junk :: V.junk :: V.junk :: V.junk :: V.junk :: V.junk :: V.junk :: V.junk :: V.junk :: V.junk :: V.junk :: V.junk :: V.junk :: V.junk :: V.junk :: V.junk :: V.junk :: V.junk :: V.junk :: V.junk :: V.junk :: V.junk :: V.junk :: V.junk :: V.junk :: V.junk :: V.junk :: V.junk :: V.junk :: V.junk :: V.junk :: V.junk :: V.junk :: V.junk :: V.junk :: V.junk :: V.junk :: V.junk :: V.junk :: V.junk :: V.junk :: V.junk :: V.junk :: V.junk :: V.junk :: V.junk :: V.junk :: [])) [.live [.str c.raw, .str c.tbs, .int .i64 c.serial, nmV c.issuer, nmV c.subject, .int .i64 c.nb, .int .i64 c.na, .int .i64 c.key.h, .str c.key.id, .str c.key.root, .bool c.info.basic, .bool CA, .int .i64 c.info.plen, .int .i64 c.info.usage, strV c.info.purposes, strV c.info.policies, mpsV c.info.maps, .int .i64 c.info.rexp, .int .i64 c.info.imap, .int .i64 c.info.iany, gnsV c.info.names, .bool c.info.hasC, gnsV c.info.cons.p, gnsV c.info.cons.x, .str c.info.sk, .str c.info.ak, ptsV c.info.points, ptsV c.info.fresh, exsV c.info.unk, .str c.sig], .live [gnsV p.names, .int .i64 p.reasons, .bool ph, nmV p.issuer], .live [.str l.raw, .str l.tbs, nmV l.issuer, .int .i64 l.this, .int .i64 l.next, .int .i64 l.number, .int .i64 l.base, .str l.ak, .bool lh, .sl n cells, .bool ou, .bool oc, .int .i64 l.sc.reasons, .bool ind, ptsV l.fresh, ensV l.entries, .str l.sig]] := by
   intro g2
   rw [if_neg g2] at hR
   refine hK2 _ _ ?_
   clear hK2 hJ2
   clear K2 g2
   refine awp_seq fun K hK => ?_
   repeat' (first | ((first | refine Y0 rfl fun K9 h9 => ?_ | (refine Y3 ?_ ?_; (focus (simp; done)); intro K9 h9)); simp (disch := first | exact dd | fail); (try simp (disch := first | exact de | fail) only [X7]); ((first | refine Ap a1 ?_ | skip) <;> ((repeat (refine Yz ?_)); (first | refine h9 _ _ (Ys ?_)); clear h9 K9))) | refine Y6 ?_ | refine Y9 ?_ | (refine Yb rfl ?_ ?_ <;> intro hcnd <;> (try simp at hcnd) <;> try exact dc) | refine Yc ?_ | (refine Ye ?_; refine Yf ?_) | (refine Yh ?_ ?_; (focus (simp; done)); refine Ys ?_) | refine Yg ?_ | (simp only [X0, Nat.reduceBEq]))
   refine hK _ _ ?_; clear hK K
   refine awp_seqJ fun K3 hK3 hJ3 => ?_
   have main3 : ∀ M : Int, (if M = 0 then (0, 29) else (M, 0)) = R → K3 ((V.junk :: V.junk :: V.junk :: V.junk :: V.junk :: V.junk :: V.junk :: V.junk :: V.junk :: (V.int .i64 M) :: V.junk :: V.junk :: V.junk :: V.junk :: V.junk :: V.junk :: V.junk :: V.junk :: V.junk :: V.junk :: V.junk :: V.junk :: V.junk :: V.junk :: V.junk :: V.junk :: V.junk :: V.junk :: V.junk :: V.junk :: V.junk :: V.junk :: V.junk :: V.junk :: V.junk :: V.junk :: V.junk :: V.junk :: V.junk :: V.junk :: V.junk :: V.junk :: V.junk :: V.junk :: V.junk :: V.junk :: V.junk :: V.junk :: V.junk :: V.junk :: V.junk :: V.junk :: V.junk :: V.junk :: V.junk :: V.junk :: V.junk :: V.junk :: V.junk :: V.junk :: V.junk :: V.junk :: V.junk :: V.junk :: V.junk :: V.junk :: V.junk :: V.junk :: V.junk :: V.junk :: V.junk :: V.junk :: V.junk :: V.junk :: V.junk :: V.junk :: V.junk :: V.junk :: V.junk :: V.junk :: V.junk :: V.junk :: V.junk :: V.junk :: V.junk :: V.junk :: V.junk :: V.junk :: V.junk :: V.junk :: [])) [] := by
    intro M hM
    refine hK3 _ _ ?_
    clear hK3 hJ3
    clear K3
    by_cases h0 : M = 0
    ·rw [if_pos h0] at hM
     subst hM
     repeat' (first | ((first | refine Y0 rfl fun K9 h9 => ?_ | (refine Y3 ?_ ?_; (focus (simp [h0]; done)); intro K9 h9)); simp (disch := first | exact dd | fail) [h0]; (try simp (disch := first | exact de | fail) only [X7]); ((repeat (refine Yz ?_)); (first | refine h9 _ _ (Ys ?_)); clear h9 K9)) | refine Y6 ?_ | (refine Y8 fun K hK => ?_) | refine Y9 ?_ | (apply hK; clear hK K) | (refine Yb rfl ?_ ?_ <;> intro hcnd <;> (try simp at hcnd) <;> try exact dc) | refine Yc ?_ | (refine Ye ?_; refine Yf ?_) | (refine Yh ?_ ?_; (focus (simp [h0]; done)); refine Ys ?_) | refine Yg ?_ | (simp only [X0, Nat.reduceBEq]) | clear hK K)
     exact .pure (by simp)
    ·rw [if_neg h0] at hM
     subst hM
     repeat' (first | ((first | refine Y0 rfl fun K9 h9 => ?_ | (refine Y3 ?_ ?_; (focus (simp [h0]; done)); intro K9 h9)); simp (disch := first | exact dd | fail) [h0]; (try simp (disch := first | exact de | fail) only [X7]); ((repeat (refine Yz ?_)); (first | refine h9 _ _ (Ys ?_)); clear h9 K9)) | refine Y6 ?_ | (refine Y8 fun K hK => ?_) | refine Y9 ?_ | (apply hK; clear hK K) | (refine Yb rfl ?_ ?_ <;> intro hcnd <;> (try simp at hcnd) <;> try exact dc) | refine Yc ?_ | (refine Ye ?_; refine Yf ?_) | (refine Yh ?_ ?_; (focus (simp [h0]; done)); refine Ys ?_) | refine Yg ?_ | (simp only [X0, Nat.reduceBEq]) | clear hK K)
     exact .pure (by simp)
   clear hK3
   cases lh
   ·simp only [Bool.false_eq_true, if_false, false_and] at hR
    repeat' (first | ((first | refine Y0 rfl fun K9 h9 => ?_ | (refine Y3 ?_ ?_; (focus (simp; done)); intro K9 h9)); simp (disch := first | exact dd | fail); (try simp (disch := first | exact de | fail) only [X7]); ((repeat (refine Yz ?_)); (first | refine h9 _ _ (Ys ?_)); clear h9 K9)) | refine Y6 ?_ | (refine Y8 fun K hK => ?_) | refine Y9 ?_ | (apply hK; clear hK K) | (refine Yb rfl ?_ ?_ <;> intro hcnd <;> (try simp at hcnd) <;> try exact dc) | refine Yc ?_ | (refine Ye ?_; refine Yf ?_) | (refine Yh ?_ ?_; (focus (simp; done)); refine Ys ?_) | refine Yg ?_ | (simp only [X0, Nat.reduceBEq]) | clear hK K)
    refine hJ3.le _ _ _ _ ?_ (main3 mp hR)
    exact Yr [] (by simp [rowsOver, rowRen_live, rens_pures])
   ·have h3 := h3 rfl
    by_cases g3 : n ≠ 0 ∧ A = false
    ·rw [if_pos ⟨rfl, .inl g3⟩] at hR
     obtain ⟨gn, rfl⟩ := g3
     subst hR
     have gn' : 0 < n := by omega
     repeat' (first | ((first | refine Y0 rfl fun K9 h9 => ?_ | (refine Y3 ?_ ?_; (focus (simp [gn']; done)); intro K9 h9)); simp (disch := first | exact dd | fail) [gn']; (try simp (disch := first | exact de | fail) only [X7]); ((first | refine acall_view h3 ⟨.pure (by simp), view_fn ⟨view_ref rfl (by simp) (by simp), trivial⟩, trivial⟩ .bool ?_ | skip) <;> ((repeat (refine Yz ?_)); (first | refine h9 _ _ (Ys ?_)); clear h9 K9))) | refine Y6 ?_ | (refine Y8 fun K hK => ?_) | refine Y9 ?_ | (apply hK; clear hK K) | (refine Yb rfl ?_ ?_ <;> intro hcnd <;> (try simp at hcnd) <;> try exact dc) | refine Yc ?_ | (refine Ye ?_; refine Yf ?_) | (refine Yh ?_ ?_; (focus (simp [gn']; done)); refine Ys ?_) | refine Yg ?_ | (simp only [X0, Nat.reduceBEq]) | clear hK K)
     exact .pure (by simp)
    ·have hA : n = 0 ∨ 0 < n ∧ A = true := by
      rcases Nat.eq_zero_or_pos n with h | h
      ·exact .inl h
      ·exact .inr ⟨h, by cases A; exact absurd ⟨by omega, rfl⟩ g3; rfl⟩
     by_cases g4 : ou = true ∧ CA = true ∨ oc = true ∧ CA = false
     ·rw [if_pos ⟨rfl, .inr g4⟩] at hR
      subst hR
      clear main3
      rcases hA with rfl | ⟨gn, rfl⟩
      ·cases ou <;> cases oc <;> cases CA <;> (try (exfalso; simp at g4; done))
       all_goals (
        repeat' (first | ((first | refine Yl rfl fun K9 h9 => ?_ | (refine Ym ?_ ?_; (focus (simp; done)); intro K9 h9)); simp (disch := first | exact dd | fail); (try simp (disch := first | exact de | fail) only [X7]); ((repeat (refine Yz ?_)); (first | refine h9 _ _ (Yp ?_)); clear h9 K9)) | refine Yo ?_ | (refine Y8 fun K hK => ?_) | refine Yq ?_ | (apply hK; clear hK K) | (refine Yb rfl ?_ ?_ <;> intro hcnd <;> (try simp at hcnd) <;> try exact dc) | refine Yc ?_ | (refine Ye ?_; refine Yf ?_) | (refine Yn ?_ ?_; (focus (simp; done)); refine Yp ?_) | refine Yg ?_ | (simp only [X0, Nat.reduceBEq]) | clear hK K)
        exact .pure (by simp))
      ·have gn' : 0 < n := by omega
       cases ou <;> cases oc <;> cases CA <;> (try (exfalso; simp at g4; done))
       all_goals (
        repeat' (first | ((first | refine Yl rfl fun K9 h9 => ?_ | (refine Ym ?_ ?_; (focus (simp [gn']; done)); intro K9 h9)); simp (disch := first | exact dd | fail) [gn']; (try simp (disch := first | exact de | fail) only [X7]); ((first | refine acall_view h3 ⟨.pure (by simp), view_fn ⟨view_ref rfl (by simp) (by simp), trivial⟩, trivial⟩ .bool ?_ | skip) <;> ((repeat (refine Yz ?_)); (first | refine h9 _ _ (Yp ?_)); clear h9 K9))) | refine Yo ?_ | (refine Y8 fun K hK => ?_) | refine Yq ?_ | (apply hK; clear hK K) | (refine Yb rfl ?_ ?_ <;> intro hcnd <;> (try simp at hcnd) <;> try exact dc) | refine Yc ?_ | (refine Ye ?_; refine Yf ?_) | (refine Yn ?_ ?_; (focus (simp [gn']; done)); refine Yp ?_) | refine Yg ?_ | (simp only [X0, Nat.reduceBEq]) | clear hK K)
        exact .pure (by simp))
     ·rw [if_neg (by rintro ⟨-, h | h⟩; exact g3 h; exact g4 h), if_pos rfl] at hR
      rcases hA with rfl | ⟨gn, rfl⟩
      ·cases ou <;> cases oc <;> cases CA <;> (try (exfalso; apply g4; simp; done))
       all_goals (
        repeat' (first | ((first | refine Yl rfl fun K9 h9 => ?_ | (refine Ym ?_ ?_; (focus (simp; done)); intro K9 h9)); simp (disch := first | exact dd | fail); (try simp (disch := first | exact de | fail) only [X7]); ((first | refine Ap a2 ?_ | skip) <;> ((repeat (refine Yz ?_)); (first | refine h9 _ _ (Yp ?_)); clear h9 K9))) | refine Yo ?_ | (refine Y8 fun K hK => ?_) | refine Yq ?_ | (apply hK; clear hK K) | (refine Yb rfl ?_ ?_ <;> intro hcnd <;> (try simp at hcnd) <;> try exact dc) | refine Yc ?_ | (refine Ye ?_; refine Yf ?_) | (refine Yn ?_ ?_; (focus (simp; done)); refine Yp ?_) | refine Yg ?_ | (simp only [X0, Nat.reduceBEq]) | clear hK K)
        refine hJ3.le _ _ _ _ ?_ (main3 _ hR)
        exact Yr [] (by simp [rowsOver, rowRen_live, rens_pures]))
      ·have gn' : 0 < n := by omega
       cases ou <;> cases oc <;> cases CA <;> (try (exfalso; apply g4; simp; done))
       all_goals (
        repeat' (first | ((first | refine Yl rfl fun K9 h9 => ?_ | (refine Ym ?_ ?_; (focus (simp [gn']; done)); intro K9 h9)); simp (disch := first | exact dd | fail) [gn']; (try simp (disch := first | exact de | fail) only [X7]); ((first | refine Ap a2 ?_ | refine acall_view h3 ⟨.pure (by simp), view_fn ⟨view_ref rfl (by simp) (by simp), trivial⟩, trivial⟩ .bool ?_ | skip) <;> ((repeat (refine Yz ?_)); (first | refine h9 _ _ (Yp ?_)); clear h9 K9))) | refine Yo ?_ | (refine Y8 fun K hK => ?_) | refine Yq ?_ | (apply hK; clear hK K) | (refine Yb rfl ?_ ?_ <;> intro hcnd <;> (try simp at hcnd) <;> try exact dc) | refine Yc ?_ | (refine Ye ?_; refine Yf ?_) | (refine Yn ?_ ?_; (focus (simp [gn']; done)); refine Yp ?_) | refine Yg ?_ | (simp only [X0, Nat.reduceBEq]) | clear hK K)
        refine hJ3.le _ _ _ _ ?_ (main3 _ hR)
        exact Yr [] (by simp [rowsOver, rowRen_live, rens_pures]))
  clear hK2
  by_cases g2 : a = false ∧ ¬ (lh = true ∧ ind = true)
  ·rw [if_pos g2] at hR
   clear main2
   subst hR
   obtain ⟨rfl, g2⟩ := g2
   cases lh <;> cases ind <;> (try (exfalso; apply g2; simp; done))
   all_goals (
    repeat' (first | ((first | refine Yl rfl fun K9 h9 => ?_ | (refine Ym ?_ ?_; (focus (simp; done)); intro K9 h9)); simp (disch := first | exact dd | fail); (try simp (disch := first | exact de | fail) only [X7]); ((repeat (refine Yz ?_)); (first | refine h9 _ _ (Yp ?_)); clear h9 K9)) | refine Yo ?_ | (refine Y8 fun K hK => ?_) | refine Yq ?_ | (apply hK; clear hK K) | (refine Yb rfl ?_ ?_ <;> intro hcnd <;> (try simp at hcnd) <;> try exact dc) | refine Yc ?_ | (refine Ye ?_; refine Yf ?_) | (refine Yn ?_ ?_; (focus (simp; done)); refine Yp ?_) | refine Yg ?_ | (simp only [X0, Nat.reduceBEq]) | clear hK K)
    exact .pure (by simp))
  ·specialize main2 g2
   cases a <;> cases lh <;> cases ind <;> (try (exfalso; apply g2; simp; done))
   all_goals (
    repeat' (first | ((first | refine Yl rfl fun K9 h9 => ?_ | (refine Ym ?_ ?_; (focus (simp; done)); intro K9 h9)); simp (disch := first | exact dd | fail); (try simp (disch := first | exact de | fail) only [X7]); ((repeat (refine Yz ?_)); (first | refine h9 _ _ (Yp ?_)); clear h9 K9)) | refine Yo ?_ | (refine Y8 fun K hK => ?_) | refine Yq ?_ | (apply hK; clear hK K) | (refine Yb rfl ?_ ?_ <;> intro hcnd <;> (try simp at hcnd) <;> try exact dc) | refine Yc ?_ | (refine Ye ?_; refine Yf ?_) | (refine Yn ?_ ?_; (focus (simp; done)); refine Yp ?_) | refine Yg ?_ | (simp only [X0, Nat.reduceBEq]) | clear hK K)
    refine hJ2.le _ _ _ _ ?_ main2
    exact Yr [some 0, some 1, some 2] (by simp [rowsOver, rowRen_live, rens_pures]))
 clear hK1
 by_cases g1 : ph = true ∧ m = false ∨ ph = false ∧ a = false
 ·rw [if_pos g1] at hR
  clear main1
  subst hR
  rcases g1 with ⟨rfl, rfl⟩ | ⟨rfl, rfl⟩
  ·repeat' (first | ((first | refine Yl rfl fun K9 h9 => ?_ | (refine Ym ?_ ?_; (focus (simp; done)); intro K9 h9)); simp (disch := first | exact dd | fail); (try simp (disch := first | exact de | fail) only [X7]); ((first | refine Ap h2 ?_ | skip) <;> ((repeat (refine Yz ?_)); (first | refine h9 _ _ (Yp ?_)); clear h9 K9))) | refine Yo ?_ | (refine Y8 fun K hK => ?_) | refine Yq ?_ | (apply hK; clear hK K) | (refine Yb rfl ?_ ?_ <;> intro hcnd <;> (try simp at hcnd) <;> try exact dc) | refine Yc ?_ | (refine Ye ?_; refine Yf ?_) | (refine Yn ?_ ?_; (focus (simp; done)); refine Yp ?_) | refine Yg ?_ | (simp only [X0, Nat.reduceBEq]) | clear hK K)
   exact .pure (by simp)
  ·repeat' (first | ((first | refine Yl rfl fun K9 h9 => ?_ | (refine Ym ?_ ?_; (focus (simp; done)); intro K9 h9)); simp (disch := first | exact dd | fail); (try simp (disch := first | exact de | fail) only [X7]); ((first | refine Ap h2 ?_ | skip) <;> ((repeat (refine Yz ?_)); (first | refine h9 _ _ (Yp ?_)); clear h9 K9))) | refine Yo ?_ | (refine Y8 fun K hK => ?_) | refine Yq ?_ | (apply hK; clear hK K) | (refine Yb rfl ?_ ?_ <;> intro hcnd <;> (try simp at hcnd) <;> try exact dc) | refine Yc ?_ | (refine Ye ?_; refine Yf ?_) | (refine Yn ?_ ?_; (focus (simp; done)); refine Yp ?_) | refine Yg ?_ | (simp only [X0, Nat.reduceBEq]) | clear hK K)
   exact .pure (by simp)
 ·specialize main1 g1
  cases ph
  ·obtain rfl : a = true := by cases a; exact absurd (by simp) g1; rfl
   repeat' (first | ((first | refine Yl rfl fun K9 h9 => ?_ | (refine Ym ?_ ?_; (focus (simp; done)); intro K9 h9)); simp (disch := first | exact dd | fail); (try simp (disch := first | exact de | fail) only [X7]); ((first | refine Ap h2 ?_ | skip) <;> ((repeat (refine Yz ?_)); (first | refine h9 _ _ (Yp ?_)); clear h9 K9))) | refine Yo ?_ | (refine Y8 fun K hK => ?_) | refine Yq ?_ | (apply hK; clear hK K) | (refine Yb rfl ?_ ?_ <;> intro hcnd <;> (try simp at hcnd) <;> try exact dc) | refine Yc ?_ | (refine Ye ?_; refine Yf ?_) | (refine Yn ?_ ?_; (focus (simp; done)); refine Yp ?_) | refine Yg ?_ | (simp only [X0, Nat.reduceBEq]) | clear hK K)
   refine hJ1.le _ _ _ _ ?_ main1
   exact Yr [some 0, some 1, some 2] (by simp [rowsOver, rowRen_live, rens_pures])
  ·obtain rfl : m = true := by cases m; exact absurd (by simp) g1; rfl
   repeat' (first | ((first | refine Yl rfl fun K9 h9 => ?_ | (refine Ym ?_ ?_; (focus (simp; done)); intro K9 h9)); simp (disch := first | exact dd | fail); (try simp (disch := first | exact de | fail) only [X7]); ((first | refine Ap h2 ?_ | skip) <;> ((repeat (refine Yz ?_)); (first | refine h9 _ _ (Yp ?_)); clear h9 K9))) | refine Yo ?_ | (refine Y8 fun K hK => ?_) | refine Yq ?_ | (apply hK; clear hK K) | (refine Yb rfl ?_ ?_ <;> intro hcnd <;> (try simp at hcnd) <;> try exact dc) | refine Yc ?_ | (refine Ye ?_; refine Yf ?_) | (refine Yn ?_ ?_; (focus (simp; done)); refine Yp ?_) | refine Yg ?_ | (simp only [X0, Nat.reduceBEq]) | clear hK K)
   refine hJ1.le _ _ _ _ ?_ main1
   exact Yr [some 0, some 1, some 2] (by simp [rowsOver, rowRen_live, rens_pures])
 ·simp
end Go.Proofs.YtnpndfmbkmbhbaaGreatDoor
