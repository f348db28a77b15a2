/-
 SCOPE: lists that extend one another.
 Conditions: none.
-/
import Derived.Test.YtnpndfmbkmbhbaaGreatDoorGt
set_option maxRecDepth 100000
set_option maxHeartbeats 32000000
namespace Go.Proofs.YtnpndfmbkmbhbaaGreatDoor
open Go.Proofs.Tryz
open Go.VS Go.Stp
set_option linter.all false
attribute [local irreducible] arun arunD arunU AWp aend bits
theorem ext_call (a b : Li) (ha : WLk a) (hb : WLk b) : PCall prog 121 [.agg a.c, .agg b.c] (.bool (extB a b)) := by
 have h1 := dmatch_call a.issuer b.issuer ha.issuer hb.issuer
 have h2 := same_sc_call a b ha hb
 have hsp : extB a b = (decide (a.base = -1) && (!decide (b.base = -1)) && nameB a.issuer b.issuer && sameSc a b && decide (a.ak = b.ak) && decide (b.base ≤ a.number) && decide (a.number < b.number)) := rfl
 rw [hsp]
 rw [Li.c.eq_1, Li.c.eq_1] at *
 generalize nameB a.issuer b.issuer = m at *
 generalize sameSc a b = s at *
 generalize a.base = ab at *
 generalize b.base = bb at *
 generalize a.ak = ax at *
 generalize b.ak = bx at *
 refine pcall_body func121 rfl call121 ?_ ?_
 rotate_left 1
 refine awp_slots (s' := (.agg [.str a.raw, .str a.tbs, nmV a.issuer, .int .i64 a.this, .int .i64 a.next, .int .i64 a.number, .int .i64 ab, .str ax, .bool a.has, gnsV a.sc.names, .bool a.sc.ou, .bool a.sc.oc, .int .i64 a.sc.reasons, .bool a.sc.ind, ptsV a.fresh, ensV a.entries, .str a.sig] : V) :: (.agg [.str b.raw, .str b.tbs, nmV b.issuer, .int .i64 b.this, .int .i64 b.next, .int .i64 b.number, .int .i64 bb, .str bx, .bool b.has, gnsV b.sc.names, .bool b.sc.ou, .bool b.sc.oc, .int .i64 b.sc.reasons, .bool b.sc.ind, ptsV b.fresh, ensV b.entries, .str b.sig] : V) :: zJ 44) rfl ?_; dsimp only [zJ]
 by_cases g1 : ab = -1
 ·subst g1
  by_cases g2 : bb = -1
  ·subst g2
   repeat' (first | ((first | refine Yl rfl fun K9 h9 => ?_ | (refine Ym ?_ ?_; (focus (simp; done)); intro K9 h9)); simp (disch := first | exact dd | fail); (try simp (disch := first | exact de | fail) only [X7]); ((repeat (refine Yz ?_)); (first | refine h9 _ _ (Yp ?_)); clear h9 K9)) | refine Yo ?_ | (refine Y8 fun K hK => ?_) | refine Yq ?_ | (apply hK; clear hK K) | (refine Ye ?_; refine Yf ?_) | (refine Yn ?_ ?_; (focus (simp; done)); refine Yp ?_) | refine Yg ?_ | (simp only [X0, Nat.reduceBEq]) | clear hK K)
   (try simp)
   exact .pure .bool
  ·cases m
   ·repeat' (first | ((first | refine Yl rfl fun K9 h9 => ?_ | (refine Ym ?_ ?_; (focus (simp [g2]; done)); intro K9 h9)); simp (disch := first | exact dd | fail) [g2]; (try simp (disch := first | exact de | fail) only [X7]); ((first | refine Ap h1 ?_ | skip) <;> ((repeat (refine Yz ?_)); (first | refine h9 _ _ (Yp ?_)); clear h9 K9))) | refine Yo ?_ | (refine Y8 fun K hK => ?_) | refine Yq ?_ | (apply hK; clear hK K) | (refine Ye ?_; refine Yf ?_) | (refine Yn ?_ ?_; (focus (simp [g2]; done)); refine Yp ?_) | refine Yg ?_ | (simp only [X0, Nat.reduceBEq]) | clear hK K)
    (try simp)
    exact .pure .bool
   ·cases s
    ·repeat' (first | ((first | refine Yl rfl fun K9 h9 => ?_ | (refine Ym ?_ ?_; (focus (simp [g2]; done)); intro K9 h9)); simp (disch := first | exact dd | fail) [g2]; (try simp (disch := first | exact de | fail) only [X7]); ((first | refine Ap h1 ?_ | refine Ap h2 ?_ | skip) <;> ((repeat (refine Yz ?_)); (first | refine h9 _ _ (Yp ?_)); clear h9 K9))) | refine Yo ?_ | (refine Y8 fun K hK => ?_) | refine Yq ?_ | (apply hK; clear hK K) | (refine Ye ?_; refine Yf ?_) | (refine Yn ?_ ?_; (focus (simp [g2]; done)); refine Yp ?_) | refine Yg ?_ | (simp only [X0, Nat.reduceBEq]) | clear hK K)
     (try simp)
     exact .pure .bool
    ·by_cases g3 : ax = bx
     ·subst g3
      by_cases g4 : bb ≤ a.number
      ·repeat' (first | ((first | refine Yl rfl fun K9 h9 => ?_ | (refine Ym ?_ ?_; (focus (simp [g2, g4]; done)); intro K9 h9)); simp (disch := first | exact dd | fail) [g2, g4]; (try simp (disch := first | exact de | fail) only [X7]); ((first | refine Ap h1 ?_ | refine Ap h2 ?_ | skip) <;> ((repeat (refine Yz ?_)); (first | refine h9 _ _ (Yp ?_)); clear h9 K9))) | refine Yo ?_ | (refine Y8 fun K hK => ?_) | refine Yq ?_ | (apply hK; clear hK K) | (refine Ye ?_; refine Yf ?_) | (refine Yn ?_ ?_; (focus (simp [g2, g4]; done)); refine Yp ?_) | refine Yg ?_ | (simp only [X0, Nat.reduceBEq]) | clear hK K)
       (try simp [g2, g4])
       exact .pure .bool
      ·repeat' (first | ((first | refine Yl rfl fun K9 h9 => ?_ | (refine Ym ?_ ?_; (focus (simp [g2, g4]; done)); intro K9 h9)); simp (disch := first | exact dd | fail) [g2, g4]; (try simp (disch := first | exact de | fail) only [X7]); ((first | refine Ap h1 ?_ | refine Ap h2 ?_ | skip) <;> ((repeat (refine Yz ?_)); (first | refine h9 _ _ (Yp ?_)); clear h9 K9))) | refine Yo ?_ | (refine Y8 fun K hK => ?_) | refine Yq ?_ | (apply hK; clear hK K) | (refine Ye ?_; refine Yf ?_) | (refine Yn ?_ ?_; (focus (simp [g2, g4]; done)); refine Yp ?_) | refine Yg ?_ | (simp only [X0, Nat.reduceBEq]) | clear hK K)
       (try simp [g4])
       exact .pure .bool
     ·repeat' (first | ((first | refine Yl rfl fun K9 h9 => ?_ | (refine Ym ?_ ?_; (focus (simp [g2, g3]; done)); intro K9 h9)); simp (disch := first | exact dd | fail) [g2, g3]; (try simp (disch := first | exact de | fail) only [X7]); ((first | refine Ap h1 ?_ | refine Ap h2 ?_ | skip) <;> ((repeat (refine Yz ?_)); (first | refine h9 _ _ (Yp ?_)); clear h9 K9))) | refine Yo ?_ | (refine Y8 fun K hK => ?_) | refine Yq ?_ | (apply hK; clear hK K) | (refine Ye ?_; refine Yf ?_) | (refine Yn ?_ ?_; (focus (simp [g2, g3]; done)); refine Yp ?_) | refine Yg ?_ | (simp only [X0, Nat.reduceBEq]) | clear hK K)
      (try simp [g3])
      exact .pure .bool
 ·repeat' (first | ((first | refine Yl rfl fun K9 h9 => ?_ | (refine Ym ?_ ?_; (focus (simp [g1]; done)); intro K9 h9)); simp (disch := first | exact dd | fail) [g1]; (try simp (disch := first | exact de | fail) only [X7]); ((repeat (refine Yz ?_)); (first | refine h9 _ _ (Yp ?_)); clear h9 K9)) | refine Yo ?_ | (refine Y8 fun K hK => ?_) | refine Yq ?_ | (apply hK; clear hK K) | (refine Ye ?_; refine Yf ?_) | (refine Yn ?_ ?_; (focus (simp [g1]; done)); refine Yp ?_) | refine Yg ?_ | (simp only [X0, Nat.reduceBEq]) | clear hK K)
  (try simp [g1])
  exact .pure .bool
 ·exact .bool

theorem current_call (l : Li) (t : Int) : PCall prog 72 [.agg l.c, .int .i64 t] (.bool (currentB l t)) := by
 have hsp : currentB l t = (decide (l.this ≤ t) && decide (t ≤ l.next)) := rfl
 rw [hsp]
 rw [Li.c.eq_1]
 refine pcall_body func72 rfl call72 ?_ ?_
 rotate_left 1
 refine awp_slots (s' := (.agg [.str l.raw, .str l.tbs, nmV l.issuer, .int .i64 l.this, .int .i64 l.next, .int .i64 l.number, .int .i64 l.base, .str l.ak, .bool l.has, gnsV l.sc.names, .bool l.sc.ou, .bool l.sc.oc, .int .i64 l.sc.reasons, .bool l.sc.ind, ptsV l.fresh, ensV l.entries, .str l.sig] : V) :: (.int .i64 t : V) :: zJ 13) rfl ?_; dsimp only [zJ]
 by_cases g1 : l.this ≤ t
 ·repeat' (first | ((first | refine Y0 rfl fun K9 h9 => ?_ | (refine Y3 ?_ ?_; (focus (simp [g1]; done)); intro K9 h9)); simp (disch := first | exact dd | fail) [g1]; (try simp (disch := first | exact de | fail) only [X7]); ((repeat (refine Yz ?_)); (first | refine h9 _ _ (Ys ?_)); clear h9 K9)) | refine Y6 ?_ | (refine Y8 fun K hK => ?_) | refine Y9 ?_ | (apply hK; clear hK K) | (refine Ye ?_; refine Yf ?_) | (refine Yh ?_ ?_; (focus (simp [g1]; done)); refine Ys ?_) | refine Yg ?_ | (simp only [X0, Nat.reduceBEq]) | clear hK K)
  (try simp [g1])
  exact .pure .bool
 ·repeat' (first | ((first | refine Y0 rfl fun K9 h9 => ?_ | (refine Y3 ?_ ?_; (focus (simp [g1]; done)); intro K9 h9)); simp (disch := first | exact dd | fail) [g1]; (try simp (disch := first | exact de | fail) only [X7]); ((repeat (refine Yz ?_)); (first | refine h9 _ _ (Ys ?_)); clear h9 K9)) | refine Y6 ?_ | (refine Y8 fun K hK => ?_) | refine Y9 ?_ | (apply hK; clear hK K) | (refine Ye ?_; refine Yf ?_) | (refine Yh ?_ ?_; (focus (simp [g1]; done)); refine Ys ?_) | refine Yg ?_ | (simp only [X0, Nat.reduceBEq]) | clear hK K)
  (try simp [g1])
  exact .pure .bool
 ·exact .bool
end Go.Proofs.YtnpndfmbkmbhbaaGreatDoor
namespace Go.Stp
open Go.VS
def pt0 : Pt := ⟨[], 0, false, []⟩
def ptsOf (l : List Pt) : List Pt := if l.length = 0 then [pt0] else l
def maskT (c : Ce) (l : Li) (ps : List Pt) (i : Nat) : Int := (ps.take i).foldl (fun m p => bits .or .i64 m (coversS c p l).1) 0
def maskS (c : Ce) (l : Li) : Int := maskT c l (ptsOf c.info.points) (ptsOf c.info.points).length
theorem maskT_succ (c : Ce) (l : Li) {ps : List Pt} {i : Nat} (h : i < ps.length) : maskT c l ps (i + 1) = bits .or .i64 (maskT c l ps i) (coversS c ps[i] l).1 := by
 rw [maskT, List.take_succ_eq_append_getElem h, List.foldl_append]; rfl
theorem WPk.pn {p : Pt} (h : WPk p) : WPn p := ⟨⟨h.few, fun g hg => ⟨(h.names g hg).name, (h.names g hg).text⟩⟩, h.issuer⟩
theorem wpk0 : WPk pt0 := ⟨fun x h => by simp [pt0] at h, by simp [pt0], by simp [pt0, WN]⟩
theorem ptsOf_w2 {l : List Pt} {h : Bool} (hw : ∀ p ∈ l, WPn p ∧ (h = true → WPk p)) : ∀ p ∈ ptsOf l, WPn p ∧ (h = true → WPk p) := by
 unfold ptsOf
 split
 ·intro p hp; simp at hp; subst hp; exact ⟨wpk0.pn, fun _ => wpk0⟩
 ·exact hw
theorem ptsOf_len (l : List Pt) : (ptsOf l).length ≤ l.length + 1 := by
 unfold ptsOf
 split <;> simp
end Go.Stp
namespace Go.Proofs.YtnpndfmbkmbhbaaGreatDoor
open Go.Proofs.Tryz
open Go.VS Go.Stp
set_option linter.all false
attribute [local irreducible] arun arunD arunU AWp aend bits
theorem spoints_call' (c : Ce) (hl : c.info.points.length ≤ 65536) (hw : ∀ p ∈ c.info.points, WPn p) : PCall prog 36 [.agg c.c] (ptsV (ptsOf c.info.points)) := by
 have hc := cpoints_call c.info.points hl hw
 rw [Ce.c.eq_1]
 unfold ptsV at *
 have hn : ptsOf c.info.points = if c.info.points.length = 0 then [pt0] else c.info.points := rfl
 rw [hn]
 refine pcall_body func36 rfl call36 ?_ ?_
 rotate_left 1
 refine awp_slots (s' := (.agg [.str c.raw, .str c.tbs, .int .i64 c.serial, nmV c.issuer, nmV c.subject, .int .i64 c.nb, .int .i64 c.na, .int .i64 c.key.h, .str c.key.id, .str c.key.root, .bool c.info.basic, .bool c.info.ca, .int .i64 c.info.plen, .int .i64 c.info.usage, strV c.info.purposes, strV c.info.policies, mpsV c.info.maps, .int .i64 c.info.rexp, .int .i64 c.info.imap, .int .i64 c.info.iany, gnsV c.info.names, .bool c.info.hasC, gnsV c.info.cons.p, gnsV c.info.cons.x, .str c.info.sk, .str c.info.ak, .sl c.info.points.length (c.info.points.flatMap Pt.c), ptsV c.info.fresh, exsV c.info.unk, .str c.sig] : V) :: zJ 12) rfl ?_; dsimp only [zJ]
 by_cases h0 : c.info.points.length = 0
 ·rw [if_pos h0]
  generalize c.info.points.flatMap Pt.c = cells at *
  generalize c.info.points.length = n at *
  subst h0
  refine awp_seq fun K hK => ?_
  repeat' (first | (refine Y0 rfl fun K9 h9 => ?_; simp (disch := first | exact dd | fail); (try simp (disch := first | exact de | fail) only [X7]); ((repeat (refine Yz ?_)); (first | refine h9 _ _ (Ys ?_)); clear h9 K9)) | refine Y6 ?_ | refine Y9 ?_ | (refine Yb rfl ?_ ?_ <;> intro hcnd <;> (try simp at hcnd) <;> try exact dc) | refine Yc ?_ | (refine Ye ?_; refine Yf ?_) | refine Yg ?_ | (simp only [X0, Nat.reduceBEq]))
  refine hK _ _ ?_; clear hK K
  refine awp_seq fun K hK => ?_
  iterate 16 (first | (refine Y0 rfl fun K9 h9 => ?_; simp (disch := first | exact dd | fail); (try simp (disch := first | exact de | fail) only [X7]); ((repeat (refine Yz ?_)); (first | refine h9 _ _ (Ys ?_)); clear h9 K9)) | refine Y6 ?_ | (refine Y8 fun K hK => ?_) | refine Y9 ?_ | (apply hK; clear hK K) | (refine Yb rfl ?_ ?_ <;> intro hcnd <;> (try simp at hcnd) <;> try exact dc) | refine Yc ?_ | (refine Ye ?_; refine Yf ?_) | refine Yg ?_ | (simp only [X0, Nat.reduceBEq]) | (clear hK K; first | (apply hK; clear hK K) | (clear hK K; first | (apply hK; clear hK K) | (clear hK K; first | (apply hK; clear hK K) | (clear hK K; apply hK; clear hK K)))))

  refine awp_nz ?_
  simp only [List.map_cons, List.map_nil, nzRow, nz]
  repeat' (first | (refine Y0 rfl fun K9 h9 => ?_; simp (disch := first | exact dd | fail); (try simp (disch := first | exact de | fail) only [X7]); ((repeat (refine Yz ?_)); (first | refine h9 _ _ (Ys ?_)); clear h9 K9)) | refine Y6 ?_ | (refine Y8 fun K hK => ?_) | refine Y9 ?_ | (apply hK; clear hK K) | (refine Yb rfl ?_ ?_ <;> intro hcnd <;> (try simp at hcnd) <;> try exact dc) | refine Yc ?_ | (refine Ye ?_; refine Yf ?_) | refine Yg ?_ | (simp only [X0, Nat.reduceBEq]) | clear hK K)
  exact view_row rfl (by simp) (by simp [Pt.c])
 ·rw [if_neg h0]
  generalize c.info.points.flatMap Pt.c = cells at *
  generalize c.info.points.length = n at *
  have h0' : ¬ (n : Int) = 0 := by omega
  repeat' (first | (refine Y0 rfl fun K9 h9 => ?_; simp (disch := first | exact dd | fail) [h0, h0']; (try simp (disch := first | exact de | fail) only [X7]); ((first | refine Ap hc ?_ | skip) <;> ((repeat (refine Yz ?_)); (first | refine h9 _ _ (Ys ?_)); clear h9 K9))) | refine Y6 ?_ | (refine Y8 fun K hK => ?_) | refine Y9 ?_ | (apply hK; clear hK K) | (refine Yb rfl ?_ ?_ <;> intro hcnd <;> (try simp at hcnd) <;> try exact dc) | refine Yc ?_ | (refine Ye ?_; refine Yf ?_) | refine Yg ?_ | (simp only [X0, Nat.reduceBEq]) | clear hK K)
  exact .pure .sl
 exact .sl

theorem smask_call' (c : Ce) (l : Li) (hci : WN c.issuer) (hwl : WLk l) (hl : c.info.points.length ≤ 65536) (hw : ∀ p ∈ c.info.points, WPn p ∧ (l.has = true → WPk p)) : PCall prog 23 [.agg c.c, .agg l.c] (.int .i64 (maskS c l)) := by
 have hp := spoints_call' c hl fun p hp => (hw p hp).1
 have hcov := fun p (hp : WPn p ∧ (l.has = true → WPk p)) => covers_call' c p l hci hp.1.2 hp.2 hwl
 have hm : maskS c l = maskT c l (ptsOf c.info.points) (ptsOf c.info.points).length := rfl
 have hpw := ptsOf_w2 hw
 have hpl := ptsOf_len c.info.points
 rw [hm]
 clear hm
 generalize ptsOf c.info.points = ps at *
 have hsucc := fun i (h : i < ps.length) => maskT_succ c l h
 have hz : maskT c l ps 0 = 0 := rfl
 have hcells : ∀ i (h : i < ps.length), ((ps.flatMap Pt.c).drop (i * 4)).take 4 = ps[i].c := pts_at ps
 have hll := pts_len ps
 rw [Ce.c.eq_1, Li.c.eq_1] at *
 rw [show ptsV ps = .sl ps.length (ps.flatMap Pt.c) from rfl] at hp
 generalize ps.flatMap Pt.c = cells at *
 refine pcall_body func23 rfl call23 ?_ ?_
 rotate_left 1
 refine awp_slots (s' := (.agg [.str c.raw, .str c.tbs, .int .i64 c.serial, nmV c.issuer, nmV c.subject, .int .i64 c.nb, .int .i64 c.na, .int .i64 c.key.h, .str c.key.id, .str c.key.root, .bool c.info.basic, .bool c.info.ca, .int .i64 c.info.plen, .int .i64 c.info.usage, strV c.info.purposes, strV c.info.policies, mpsV c.info.maps, .int .i64 c.info.rexp, .int .i64 c.info.imap, .int .i64 c.info.iany, gnsV c.info.names, .bool c.info.hasC, gnsV c.info.cons.p, gnsV c.info.cons.x, .str c.info.sk, .str c.info.ak, ptsV c.info.points, ptsV c.info.fresh, exsV c.info.unk, .str c.sig] : V) :: (.agg [.str l.raw, .str l.tbs, nmV l.issuer, .int .i64 l.this, .int .i64 l.next, .int .i64 l.number, .int .i64 l.base, .str l.ak, .bool l.has, gnsV l.sc.names, .bool l.sc.ou, .bool l.sc.oc, .int .i64 l.sc.reasons, .bool l.sc.ind, ptsV l.fresh, ensV l.entries, .str l.sig] : V) :: zJ 27) rfl ?_; dsimp only [zJ]
 repeat' (first | (refine Y0 rfl fun K9 h9 => ?_; simp (disch := first | exact dd | fail); (try simp (disch := first | exact de | fail) only [X7]); ((first | refine Ap hp ?_ | skip) <;> ((repeat (refine Yz ?_)); (first | refine h9 _ _ (Ys ?_)); clear h9 K9))) | refine Y6 ?_ | (refine Y8 fun K hK => ?_) | refine Y9 ?_ | (apply hK; clear hK K) | refine Ya ?_ | (refine Yb rfl ?_ ?_ <;> intro hcnd <;> (try simp at hcnd) <;> try exact dc) | refine Yc ?_ | (refine Yd ?_; simp only [X0, Nat.reduceBEq]) | (refine Ye ?_; refine Yf ?_) | refine Yg ?_ | (simp only [X0, Nat.reduceBEq]) | clear hK K)
 ·refine awp_countU (fun i => (zS 2 (zN 2 (some V.junk :: some (V.int .i64 (maskT c l ps i)) :: none :: zS 4 (zN 2 (some (V.int .i64 i) :: zS 15 [])))))) (fun i => [.live [.str c.raw, .str c.tbs, .int .i64 c.serial, nmV c.issuer, nmV c.subject, .int .i64 c.nb, .int .i64 c.na, .int .i64 c.key.h, .str c.key.id, .str c.key.root, .bool c.info.basic, .bool c.info.ca, .int .i64 c.info.plen, .int .i64 c.info.usage, strV c.info.purposes, strV c.info.policies, mpsV c.info.maps, .int .i64 c.info.rexp, .int .i64 c.info.imap, .int .i64 c.info.iany, gnsV c.info.names, .bool c.info.hasC, gnsV c.info.cons.p, gnsV c.info.cons.x, .str c.info.sk, .str c.info.ak, ptsV c.info.points, ptsV c.info.fresh, exsV c.info.unk, .str c.sig], .live [.str l.raw, .str l.tbs, nmV l.issuer, .int .i64 l.this, .int .i64 l.next, .int .i64 l.number, .int .i64 l.base, .str l.ak, .bool l.has, gnsV l.sc.names, .bool l.sc.ou, .bool l.sc.oc, .int .i64 l.sc.reasons, .bool l.sc.ind, ptsV l.fresh, ensV l.entries, .str l.sig]]) ps.length ?_ fun i hi KL hL => ?_
  ·dsimp only [ups, zN, zS]
   exact Le.mk [some 0, some 1] (by simp [hz]) (rowsRen_of (by simp) (by simp [rowsOver, rowRen_live, rens_pures])) (by simp)
  dsimp only [ups, zN, zS]
  rcases Nat.lt_or_ge i ps.length with hi | hi
  ·have hcv := hcov ps[i] (hpw _ (List.getElem_mem hi))
   have hs := hsucc i hi
   have hg := hcells i hi
   obtain ⟨x, hxx⟩ : ∃ x, ps[i] = x := ⟨_, rfl⟩
   rw [hxx] at hcv hs hg
   rw [show x.c = [gnsV x.names, .int .i64 x.reasons, .bool x.has, nmV x.issuer] from rfl] at hg hcv
   unfold covV at hcv
   generalize coversS c x l = R at *
   repeat' (first | (refine Y0 rfl fun K9 h9 => ?_; simp (disch := first | exact dd | fail) [hg]; (try simp (disch := first | exact de | fail) only [X7]); ((first | refine Ap hcv ?_ | skip) <;> ((repeat (refine Yz ?_)); (first | refine h9 _ _ (Ys ?_)); clear h9 K9))) | refine Y6 ?_ | (refine Y8 fun K hK => ?_) | refine Y9 ?_ | (apply hK; clear hK K) | refine Ya ?_ | (refine Yb rfl ?_ ?_ <;> intro hcnd <;> (try simp at hcnd) <;> try exact dc) | refine Yc ?_ | (refine Yd ?_; simp only [X0, Nat.reduceBEq]) | (refine Ye ?_; refine Yf ?_) | refine Yg ?_ | (simp only [X0, Nat.reduceBEq]) | clear hK K)
   refine hL _ _ hi ?_
   rw [hs]
   exact Yr [some 0, some 1] (by simp [rowsOver, rowRen_live, rens_pures])
  ·obtain rfl : i = ps.length := by omega
   repeat' (first | (refine Y0 rfl fun K9 h9 => ?_; simp (disch := first | exact dd | fail); (try simp (disch := first | exact de | fail) only [X7]); ((repeat (refine Yz ?_)); (first | refine h9 _ _ (Ys ?_)); clear h9 K9)) | refine Y6 ?_ | (refine Y8 fun K hK => ?_) | refine Y9 ?_ | (apply hK; clear hK K) | refine Ya ?_ | (refine Yb rfl ?_ ?_ <;> intro hcnd <;> (try simp at hcnd) <;> try exact dc) | refine Yc ?_ | (refine Yd ?_; simp only [X0, Nat.reduceBEq]) | (refine Ye ?_; refine Yf ?_) | refine Yg ?_ | (simp only [X0, Nat.reduceBEq]) | clear hK K)
   exact .pure .int
 ·exact .int

end Go.Proofs.YtnpndfmbkmbhbaaGreatDoor
