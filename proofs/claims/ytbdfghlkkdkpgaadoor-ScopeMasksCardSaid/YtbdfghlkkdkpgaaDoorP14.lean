/-
  SCOPE: ScopeCovers and ScopeMasks.
  Conditions: none.
-/
import Derived.Test.YtbdfghlkkdkpgaaDoorGe
import Derived.Test.YtbdfghlkkdkpgaaDoorGf
import Derived.Test.YtbdfghlkkdkpgaaDoorP1
import Derived.Test.YtbdfghlkkdkpgaaDoorP2
import Derived.Test.YtbdfghlkkdkpgaaDoorP3
import Derived.Test.YtbdfghlkkdkpgaaDoorP4
import Derived.Test.YtbdfghlkkdkpgaaDoorP5
import Derived.Test.YtbdfghlkkdkpgaaDoorP6
import Derived.Test.YtbdfghlkkdkpgaaDoorP7
import Derived.Test.YtbdfghlkkdkpgaaDoorP8
import Derived.Test.YtbdfghlkkdkpgaaDoorP9
import Derived.Test.YtbdfghlkkdkpgaaDoorP10
import Derived.Test.YtbdfghlkkdkpgaaDoorP11
import Derived.Test.YtbdfghlkkdkpgaaDoorP12
import Derived.Test.YtbdfghlkkdkpgaaDoorP13
import Derived.Test.YtbdfghlkkdkpgaaDoorGj
import Derived.Test.YtbdfghlkkdkpgaaDoorGl
import Derived.Test.YtbdfghlkkdkpgaaDoorQ6
import Derived.Test.YtbdfghlkkdkpgaaDoorQ7
import Derived.Test.YtbdfghlkkdkpgaaDoorQ25
import Derived.Test.YtbdfghlkkdkpgaaDoorQ26
import Derived.Test.YtbdfghlkkdkpgaaDoorQ27
import Derived.Test.YtbdfghlkkdkpgaaDoorQ28
import Derived.Test.YtbdfghlkkdkpgaaDoorQ29
import Derived.Test.YtbdfghlkkdkpgaaDoorTab
import Derived.Test.YtbdfghlkkdkpgaaDoorGd
import Derived.Test.YtbdfghlkkdkpgaaDoorGi
import Derived.Test.YtbdfghlkkdkpgaaDoorVs31
import Derived.Test.YtbdfghlkkdkpgaaDoorVs33
import Derived.Test.YtbdfghlkkdkpgaaDoorVs34
import Derived.Test.YtbdfghlkkdkpgaaDoorVs35
import Derived.Test.YtbdfghlkkdkpgaaDoorVs36
import Derived.Test.YtbdfghlkkdkpgaaDoorVs37
set_option linter.all false
namespace Go.Stp
open Go.VS
/-- A mask of reasons. -/
def SubM (m : Int) : Prop := ∃ n : Nat, m = n ∧ n &&& 510 = n
theorem subM_le {m : Int} (h : SubM m) : 0 ≤ m ∧ m ≤ 510 := by
  obtain ⟨n, rfl, h⟩ := h
  have : n &&& 510 ≤ 510 := Nat.and_le_right
  omega
theorem subM_or {a b : Int} (ha : SubM a) (hb : SubM b) : SubM (bits .or .i64 a b) := by
  have h1 := subM_le ha
  have h2 := subM_le hb
  obtain ⟨m, rfl, hm⟩ := ha
  obtain ⟨n, rfl, hn⟩ := hb
  have hor : (m ||| n) &&& 510 = m ||| n := by rw [Nat.and_or_distrib_right, hm, hn]
  have hle : (m ||| n) ≤ 510 := by rw [← hor]; exact Nat.and_le_right
  have hb := (Go.VS.bits_nat (k := .i64) (a := m) (b := n) (by simp [IntKind.bits]; omega) (by simp [IntKind.bits]; omega)).2.1
  rw [hb]
  refine ⟨m ||| n, ?_, hor⟩
  generalize m ||| n = q at *
  exact wrap_i64 (by omega) (by omega)
theorem coverM_sub {p : Pt} {l : Li} (hp : p.reasons = 0 ∨ p.reasons = 2 ∨ p.reasons = 510 ∨ p.reasons = 508) (hl : RM l.sc.reasons) : SubM (coverM p l) := by
  have h0 : ∀ m : Int, m = 0 ∨ m = 2 ∨ m = 508 ∨ m = 510 ∨ m = 128 → SubM m := by
    rintro m (rfl | rfl | rfl | rfl | rfl)
    · exact ⟨0, rfl, rfl⟩
    · exact ⟨2, rfl, by decide⟩
    · exact ⟨508, rfl, by decide⟩
    · exact ⟨510, rfl, by decide⟩
    · exact ⟨128, rfl, by decide⟩
  apply h0
  unfold coverM RM at *
  rcases hp with e | e | e | e <;> rw [e] <;> rcases hl with e | e | e | e | e <;> rw [e] <;> cases l.has <;> decide +kernel
theorem coversS_sub {c : Ce} {p : Pt} {l : Li} (hp : p.reasons = 0 ∨ p.reasons = 2 ∨ p.reasons = 510 ∨ p.reasons = 508) (hl : RM l.sc.reasons) : SubM (coversS c p l).1 := by
  unfold coversS
  have z : SubM 0 := ⟨0, rfl, rfl⟩
  split
  · exact z
  split
  · exact z
  split
  · exact z
  split
  · exact z
  · exact coverM_sub hp hl
theorem maskT_sub {c : Ce} {l : Li} (hl : RM l.sc.reasons) {ps : List Pt} (hp : ∀ p ∈ ps, p.reasons = 0 ∨ p.reasons = 2 ∨ p.reasons = 510 ∨ p.reasons = 508) : ∀ i, i ≤ ps.length → SubM (maskT c l ps i)
  | 0, _ => ⟨0, rfl, rfl⟩
  | i + 1, h => by
    rw [maskT_succ c l (show i < ps.length by omega)]
    exact subM_or (maskT_sub hl hp i (by omega)) (coversS_sub (hp _ (List.getElem_mem _)) hl)
theorem ptsOf_r {l : List Pt} (h : ∀ p ∈ l, WPt p) : ∀ p ∈ ptsOf l, p.reasons = 0 ∨ p.reasons = 2 ∨ p.reasons = 510 ∨ p.reasons = 508 := by
  unfold ptsOf
  split
  · intro p hp; simp at hp; subst hp; exact .inl rfl
  · exact fun p hp => (h p hp).reasons
end Go.Stp
namespace Go.Proofs.YtbdfghlkkdkpgaaDoor
open Go.VS Go.Stp
set_option linter.all false
set_option maxRecDepth 100000
set_option maxHeartbeats 16000000
attribute [local irreducible] arun arunD arunU AWp aend bits
theorem scopeCovers_call (l : List Int) (hl : l.length ≤ 140737488355328) (hr : ∀ k ∈ l, -9223372036854775808 ≤ k ∧ k ≤ 9223372036854775807) : PCall Tryd.prog 3 [.sl l.length (l.map (V.int .i64))] (.bool true) := by
  have aw := awake27_call
  have hsm := some_dc ⟨hl, hr⟩
  refine pcall_body Tryd.func3 rfl Tryd.call3 ?_ ?_
  rotate_left 1
  refine awp_slots (s' := ((.sl l.length (l.map (V.int .i64)) : V) :: V.junk :: V.junk :: V.junk :: V.junk :: V.junk :: V.junk :: V.junk :: V.junk :: V.junk :: V.junk :: V.junk :: V.junk :: V.junk :: V.junk :: V.junk :: V.junk :: V.junk :: V.junk :: V.junk :: V.junk :: V.junk :: V.junk :: V.junk :: V.junk :: V.junk :: V.junk :: V.junk :: V.junk :: V.junk :: V.junk :: V.junk :: V.junk :: V.junk :: V.junk :: V.junk :: V.junk :: V.junk :: V.junk :: V.junk :: V.junk :: V.junk :: V.junk :: V.junk :: V.junk :: V.junk :: V.junk :: V.junk :: V.junk :: V.junk :: V.junk :: V.junk :: V.junk :: V.junk :: V.junk :: V.junk :: V.junk :: V.junk :: V.junk :: V.junk :: V.junk :: V.junk :: [])) rfl ?_
  refine awp_seq fun K hK => ?_
  repeat' (first | ((first | refine Y0 rfl fun K9 h9 => ?_ | refine Y1 rfl rfl fun K9 h9 => ?_ | refine Y2 rfl rfl fun K9 h9 => ?_ | (refine Y3 ?_ ?_; (focus (simp; done)); intro K9 h9) | ((first | refine Y4 rfl ?_ ?_ | refine Y5 rfl ?_ ?_); (focus (simp; done)); intro K9 h9)); simp (disch := (first | (simp; done) | omega | (simp; omega))); (try simp (disch := (first | omega | (simp; omega))) only [X7, X8, X9, Xa, Xb, Xc]); ((first | refine acall_new (deck_call l) (dk_pures _ _) (by simp) ?_ | (refine acall_dc hsm rfl (by omega) (by simp) (fun r b hb hQ hr => ?_); obtain ⟨c, x, hc, hx, rfl⟩ := hQ; clear hr; rw [Ce.c.eq_1, Li.c.eq_1]) | skip) <;> ((repeat (refine Yz ?_)); (first | refine h9 _ _ (Ys ?_) | refine h9 _ _ (Yt ?_)); clear h9 K9))) | refine Y6 ?_ | refine Y7 ?_ | refine Y9 ?_ | ((first | refine Yk (m := 0) (by decide +kernel) [] (by kernel_rfl) (by decide +kernel) ?_); dsimp only [List.replicate, List.append_nil, List.cons_append, List.nil_append, List.length_cons, List.length_nil]) | refine Ya ?_ | (refine Yb rfl (fun hcnd => ?_) (fun hcnd => ?_) <;> (try simp at hcnd) <;> (try contradiction) <;> (try (exfalso; omega))) | refine Yc ?_ | (refine Yd ?_; simp only [X0, X1, X2, X3, X4, X5, X6, Nat.reduceBEq]) | (refine Ye ?_; refine Yf ?_) | (refine Yh ?_ ?_; (focus (simp; done)); refine Ys ?_) | ((first | refine Yi rfl ?_ ?_ | refine Yj rfl ?_ ?_); (focus (simp; done)); refine Yt ?_) | refine Yg ?_ | (simp only [X0, X1, X2, X3, X4, X5, X6, Nat.reduceBEq]))
  refine hK _ _ ?_; clear hK K
  refine awp_seq fun K hK => ?_
  repeat' (first | ((first | refine Y0 rfl fun K9 h9 => ?_ | refine Y1 rfl rfl fun K9 h9 => ?_ | refine Y2 rfl rfl fun K9 h9 => ?_ | (refine Y3 ?_ ?_; (focus (simp; done)); intro K9 h9) | ((first | refine Y4 rfl ?_ ?_ | refine Y5 rfl ?_ ?_); (focus (simp; done)); intro K9 h9)); simp (disch := (first | (simp; done) | omega | (simp; omega))); (try simp (disch := (first | omega | (simp; omega))) only [X7, X8, X9, Xa, Xb, Xc]); ((first | refine acall_new (deck_call l) (dk_pures _ _) (by simp) ?_ | (refine acall_dc hsm rfl (by omega) (by simp) (fun r b hb hQ hr => ?_); obtain ⟨c, x, hc, hx, rfl⟩ := hQ; clear hr; rw [Ce.c.eq_1, Li.c.eq_1]) | skip) <;> ((repeat (refine Yz ?_)); (first | refine h9 _ _ (Ys ?_) | refine h9 _ _ (Yt ?_)); clear h9 K9))) | refine Y6 ?_ | refine Y7 ?_ | refine Y9 ?_ | ((first | refine Yk (m := 0) (by decide +kernel) [] (by kernel_rfl) (by decide +kernel) ?_); dsimp only [List.replicate, List.append_nil, List.cons_append, List.nil_append, List.length_cons, List.length_nil]) | refine Ya ?_ | (refine Yb rfl (fun hcnd => ?_) (fun hcnd => ?_) <;> (try simp at hcnd) <;> (try contradiction) <;> (try (exfalso; omega))) | refine Yc ?_ | (refine Yd ?_; simp only [X0, X1, X2, X3, X4, X5, X6, Nat.reduceBEq]) | (refine Ye ?_; refine Yf ?_) | (refine Yh ?_ ?_; (focus (simp; done)); refine Ys ?_) | ((first | refine Yi rfl ?_ ?_ | refine Yj rfl ?_ ?_); (focus (simp; done)); refine Yt ?_) | refine Yg ?_ | (simp only [X0, X1, X2, X3, X4, X5, X6, Nat.reduceBEq]))
  refine hK _ _ ?_; clear hK K
  have hfew := hc.few
  have hk : ∀ p ∈ c.info.points, WPk p := fun p hp => (hc.points p hp).k
  have h1 := spoints_call c (by omega) hk
  have h2 := rpoints_call c (by omega)
  have hcv := fun p hp => covers_call c p x hc.issuer hp hx.k
  have hrv := fun p hp => rcovers_call c p x hc.issuer hp hx.k
  have hpw := ptsOf_w hk
  have hpl := ptsOf_len c.info.points
  rw [show ptsV (ptsOf c.info.points) = .sl (ptsOf c.info.points).length ((ptsOf c.info.points).flatMap Pt.c) from rfl] at h1 h2
  generalize ptsOf c.info.points = ps at *
  have hcells := pts_at ps
  have hll := pts_len ps
  generalize ps.flatMap Pt.c = cells at *
  rw [Ce.c.eq_1] at h1 h2
  clear hsm hc hx hk
  repeat' (first | ((first | refine Y0 rfl fun K9 h9 => ?_ | refine Y1 rfl rfl fun K9 h9 => ?_ | refine Y2 rfl rfl fun K9 h9 => ?_ | (refine Y3 ?_ ?_; (focus (simp; done)); intro K9 h9) | ((first | refine Y4 rfl ?_ ?_ | refine Y5 rfl ?_ ?_); (focus (simp; done)); intro K9 h9)); simp (disch := (first | (simp; done) | omega | (simp; omega))); (try simp (disch := (first | omega | (simp; omega))) only [X7, X8, X9, Xa, Xb, Xc]); ((first | refine acall_pure (h1) (by simp) ?_ | refine acall_pure (h2) (by simp) ?_ | skip) <;> ((repeat (refine Yz ?_)); (first | refine h9 _ _ (Ys ?_) | refine h9 _ _ (Yt ?_)); clear h9 K9))) | refine Y6 ?_ | refine Y7 ?_ | (refine Y8 fun K hK => ?_) | refine Y9 ?_ | (apply hK; clear hK K) | ((first | refine Yk (m := 0) (by decide +kernel) [] (by kernel_rfl) (by decide +kernel) ?_); dsimp only [List.replicate, List.append_nil, List.cons_append, List.nil_append, List.length_cons, List.length_nil]) | refine Ya ?_ | (refine Yb rfl (fun hcnd => ?_) (fun hcnd => ?_) <;> (try simp at hcnd) <;> (try contradiction) <;> (try (exfalso; omega))) | refine Yc ?_ | (refine Yd ?_; simp only [X0, X1, X2, X3, X4, X5, X6, Nat.reduceBEq]) | (refine Ye ?_; refine Yf ?_) | (refine Yh ?_ ?_; (focus (simp; done)); refine Ys ?_) | ((first | refine Yi rfl ?_ ?_ | refine Yj rfl ?_ ?_); (focus (simp; done)); refine Yt ?_) | refine Yg ?_ | (simp only [X0, X1, X2, X3, X4, X5, X6, Nat.reduceBEq]) | (clear hK K; first | (apply hK; clear hK K) | (clear hK K; first | (apply hK; clear hK K) | (clear hK K; first | (apply hK; clear hK K) | (clear hK K; apply hK; clear hK K)))))
  refine awp_countU (fun i => (some V.junk :: none :: some V.junk :: none :: none :: some V.junk :: none :: some (V.int .i64 i) :: some V.junk :: some V.junk :: some V.junk :: some V.junk :: some V.junk :: some V.junk :: some V.junk :: some V.junk :: some V.junk :: some V.junk :: some V.junk :: some V.junk :: some V.junk :: some V.junk :: some V.junk :: some V.junk :: some V.junk :: some V.junk :: some V.junk :: some V.junk :: some V.junk :: some V.junk :: some V.junk :: some V.junk :: some V.junk :: some V.junk :: some V.junk :: some V.junk :: some V.junk :: some V.junk :: some V.junk :: some V.junk :: some V.junk :: some V.junk :: some V.junk :: some V.junk :: some V.junk :: some V.junk :: some V.junk :: some V.junk :: some V.junk :: some V.junk :: some V.junk :: some V.junk :: some V.junk :: some V.junk :: some V.junk :: some V.junk :: some V.junk :: some V.junk :: some V.junk :: some V.junk :: some V.junk :: some V.junk :: [])) (fun i => [.live (dk l b), .live [.str c.raw, .str c.tbs, .int .i64 c.serial, nmV c.issuer, nmV c.subject, .int .i64 c.nb, .int .i64 c.na, .int .i64 c.key.h, .str c.key.id, .str c.key.root, .bool c.info.basic, .bool c.info.ca, .int .i64 c.info.plen, .int .i64 c.info.usage, strV c.info.purposes, strV c.info.policies, mpsV c.info.maps, .int .i64 c.info.rexp, .int .i64 c.info.imap, .int .i64 c.info.iany, gnsV c.info.names, .bool c.info.hasC, gnsV c.info.cons.p, gnsV c.info.cons.x, .str c.info.sk, .str c.info.ak, ptsV c.info.points, ptsV c.info.fresh, exsV c.info.unk, .str c.sig], .live [.str x.raw, .str x.tbs, nmV x.issuer, .int .i64 x.this, .int .i64 x.next, .int .i64 x.number, .int .i64 x.base, .str x.ak, .bool x.has, gnsV x.sc.names, .bool x.sc.ou, .bool x.sc.oc, .int .i64 x.sc.reasons, .bool x.sc.ind, ptsV x.fresh, ensV x.entries, .str x.sig]]) ps.length ?_ fun i hi KL hL => ?_
  · dsimp only [ups_some, ups_none, ups_nil, ups_nil']
    exact Yr [some 0, some 1, some 2] (by simp [rowsOver, rowRen_live, rens_pures])
  dsimp only [ups_some, ups_none, ups_nil, ups_nil']
  rcases Nat.lt_or_ge i ps.length with hi | hi
  · have hc1 := hcv ps[i] (hpw _ (List.getElem_mem hi))
    have hc2 := hrv ps[i] (hpw _ (List.getElem_mem hi))
    have hg := hcells i hi
    clear hcv hrv hcells hpw
    obtain ⟨y, hyy⟩ : ∃ y, ps[i] = y := ⟨_, rfl⟩
    rw [hyy] at hc1 hc2 hg
    rw [show y.c = [gnsV y.names, .int .i64 y.reasons, .bool y.has, nmV y.issuer] from rfl] at hg hc1 hc2
    unfold covV at hc1 hc2
    rw [Ce.c.eq_1, Li.c.eq_1] at hc1 hc2
    generalize coversS c y x = R at *
    repeat' (first | ((first | refine Y0 rfl fun K9 h9 => ?_ | refine Y1 rfl rfl fun K9 h9 => ?_ | refine Y2 rfl rfl fun K9 h9 => ?_ | (refine Y3 ?_ ?_; (focus (simp [hg]; done)); intro K9 h9) | ((first | refine Y4 rfl ?_ ?_ | refine Y5 rfl ?_ ?_); (focus (simp [hg]; done)); intro K9 h9)); simp (disch := (first | (simp; done) | omega | (simp; omega))) [hg]; (try simp (disch := (first | omega | (simp; omega))) only [X7, X8, X9, Xa, Xb, Xc]); ((first | refine ⟨_, hc1, ?_⟩ | refine ⟨_, hc2, ?_⟩ | skip) <;> ((repeat (refine Yz ?_)); (first | refine h9 _ _ (Ys ?_) | refine h9 _ _ (Yt ?_)); clear h9 K9))) | refine Y6 ?_ | refine Y7 ?_ | (refine Y8 fun K hK => ?_) | refine Y9 ?_ | (apply hK; clear hK K) | ((first | refine Yk (m := 0) (by decide +kernel) [0,0,0,0,0,0,1,0,0,0,0,0] (by kernel_rfl) (by decide +kernel) ?_ | refine Yk (m := 0) (by decide +kernel) [] (by kernel_rfl) (by decide +kernel) ?_); dsimp only [List.replicate, List.append_nil, List.cons_append, List.nil_append, List.length_cons, List.length_nil]) | refine Ya ?_ | (refine Yb rfl (fun hcnd => ?_) (fun hcnd => ?_) <;> (try simp at hcnd) <;> (try contradiction) <;> (try (exfalso; omega))) | refine Yc ?_ | (refine Yd ?_; simp only [X0, X1, X2, X3, X4, X5, X6, Nat.reduceBEq]) | (refine Ye ?_; refine Yf ?_) | (refine Yh ?_ ?_; (focus (simp [hg]; done)); refine Ys ?_) | ((first | refine Yi rfl ?_ ?_ | refine Yj rfl ?_ ?_); (focus (simp [hg]; done)); refine Yt ?_) | refine Yg ?_ | (simp only [X0, X1, X2, X3, X4, X5, X6, Nat.reduceBEq]) | (clear hK K; first | (apply hK; clear hK K) | (clear hK K; first | (apply hK; clear hK K) | (clear hK K; first | (apply hK; clear hK K) | (clear hK K; apply hK; clear hK K)))))
    refine hL _ _ hi ?_
    exact Yr [some 0, some 1, some 2] (by simp [rowsOver, rowRen_live, rens_pures])
  · obtain rfl : i = ps.length := by omega
    repeat' (first | ((first | refine Y0 rfl fun K9 h9 => ?_ | refine Y1 rfl rfl fun K9 h9 => ?_ | refine Y2 rfl rfl fun K9 h9 => ?_ | (refine Y3 ?_ ?_; (focus (simp; done)); intro K9 h9) | ((first | refine Y4 rfl ?_ ?_ | refine Y5 rfl ?_ ?_); (focus (simp; done)); intro K9 h9)); simp (disch := (first | (simp; done) | omega | (simp; omega))); (try simp (disch := (first | omega | (simp; omega))) only [X7, X8, X9, Xa, Xb, Xc]); ((first | refine acall_pure (aw) (by simp) ?_ | skip) <;> ((repeat (refine Yz ?_)); (first | refine h9 _ _ (Ys ?_) | refine h9 _ _ (Yt ?_)); clear h9 K9))) | refine Y6 ?_ | refine Y7 ?_ | (refine Y8 fun K hK => ?_) | refine Y9 ?_ | (apply hK; clear hK K) | ((first | refine Yk (m := 0) (by decide +kernel) [] (by kernel_rfl) (by decide +kernel) ?_); dsimp only [List.replicate, List.append_nil, List.cons_append, List.nil_append, List.length_cons, List.length_nil]) | refine Ya ?_ | (refine Yb rfl (fun hcnd => ?_) (fun hcnd => ?_) <;> (try simp at hcnd) <;> (try contradiction) <;> (try (exfalso; omega))) | refine Yc ?_ | (refine Yd ?_; simp only [X0, X1, X2, X3, X4, X5, X6, Nat.reduceBEq]) | (refine Ye ?_; refine Yf ?_) | (refine Yh ?_ ?_; (focus (simp; done)); refine Ys ?_) | ((first | refine Yi rfl ?_ ?_ | refine Yj rfl ?_ ?_); (focus (simp; done)); refine Yt ?_) | refine Yg ?_ | (simp only [X0, X1, X2, X3, X4, X5, X6, Nat.reduceBEq]) | (clear hK K; first | (apply hK; clear hK K) | (clear hK K; first | (apply hK; clear hK K) | (clear hK K; first | (apply hK; clear hK K) | (clear hK K; apply hK; clear hK K)))))
    exact .pure .bool
  · exact .bool
theorem scopeCovers_fits : ∀ xs, FitsAll Tryd.prog 8 Tryd.f3.params.toList xs → PCall Tryd.prog 3 xs (.bool true) := by
  intro xs h
  rw [show Tryd.f3.params.toList = [22] by kernel_rfl] at h
  obtain ⟨x1, xs, rfl, h1, h⟩ := fitsAll_cons h
  obtain rfl := fitsAll_nil h
  obtain ⟨l, hl, hr, rfl⟩ := fits_ints (e := 3) (by kernel_rfl) (by kernel_rfl) h1
  exact scopeCovers_call l hl hr

theorem scopeMasks_call (l : List Int) (hl : l.length ≤ 140737488355328) (hr : ∀ k ∈ l, -9223372036854775808 ≤ k ∧ k ≤ 9223372036854775807) : PCall Tryd.prog 4 [.sl l.length (l.map (V.int .i64))] (.bool true) := by
  have aw := awake27_call
  have hsm := some_dc ⟨hl, hr⟩
  refine pcall_body Tryd.func4 rfl Tryd.call4 ?_ ?_
  rotate_left 1
  refine awp_slots (s' := ((.sl l.length (l.map (V.int .i64)) : V) :: V.junk :: V.junk :: V.junk :: V.junk :: V.junk :: V.junk :: V.junk :: V.junk :: V.junk :: V.junk :: V.junk :: V.junk :: V.junk :: V.junk :: V.junk :: V.junk :: V.junk :: V.junk :: V.junk :: V.junk :: V.junk :: V.junk :: V.junk :: V.junk :: V.junk :: V.junk :: V.junk :: V.junk :: V.junk :: V.junk :: V.junk :: V.junk :: V.junk :: V.junk :: V.junk :: V.junk :: V.junk :: V.junk :: V.junk :: V.junk :: V.junk :: V.junk :: V.junk :: V.junk :: V.junk :: V.junk :: V.junk :: V.junk :: V.junk :: V.junk :: V.junk :: V.junk :: V.junk :: V.junk :: V.junk :: V.junk :: V.junk :: V.junk :: V.junk :: V.junk :: V.junk :: [])) rfl ?_
  refine awp_seq fun K hK => ?_
  repeat' (first | ((first | refine Y0 rfl fun K9 h9 => ?_ | refine Y1 rfl rfl fun K9 h9 => ?_ | refine Y2 rfl rfl fun K9 h9 => ?_ | (refine Y3 ?_ ?_; (focus (simp; done)); intro K9 h9) | ((first | refine Y4 rfl ?_ ?_ | refine Y5 rfl ?_ ?_); (focus (simp; done)); intro K9 h9)); simp (disch := (first | (simp; done) | omega | (simp; omega))); (try simp (disch := (first | omega | (simp; omega))) only [X7, X8, X9, Xa, Xb, Xc]); ((first | refine acall_new (deck_call l) (dk_pures _ _) (by simp) ?_ | (refine acall_dc hsm rfl (by omega) (by simp) (fun r b hb hQ hr => ?_); obtain ⟨c, x, hc, hx, rfl⟩ := hQ; clear hr; rw [Ce.c.eq_1, Li.c.eq_1]) | skip) <;> ((repeat (refine Yz ?_)); (first | refine h9 _ _ (Ys ?_) | refine h9 _ _ (Yt ?_)); clear h9 K9))) | refine Y6 ?_ | refine Y7 ?_ | refine Y9 ?_ | ((first | refine Yk (m := 0) (by decide +kernel) [] (by kernel_rfl) (by decide +kernel) ?_); dsimp only [List.replicate, List.append_nil, List.cons_append, List.nil_append, List.length_cons, List.length_nil]) | refine Ya ?_ | (refine Yb rfl (fun hcnd => ?_) (fun hcnd => ?_) <;> (try simp at hcnd) <;> (try contradiction) <;> (try (exfalso; omega))) | refine Yc ?_ | (refine Yd ?_; simp only [X0, X1, X2, X3, X4, X5, X6, Nat.reduceBEq]) | (refine Ye ?_; refine Yf ?_) | (refine Yh ?_ ?_; (focus (simp; done)); refine Ys ?_) | ((first | refine Yi rfl ?_ ?_ | refine Yj rfl ?_ ?_); (focus (simp; done)); refine Yt ?_) | refine Yg ?_ | (simp only [X0, X1, X2, X3, X4, X5, X6, Nat.reduceBEq]))
  refine hK _ _ ?_; clear hK K
  refine awp_seq fun K hK => ?_
  repeat' (first | ((first | refine Y0 rfl fun K9 h9 => ?_ | refine Y1 rfl rfl fun K9 h9 => ?_ | refine Y2 rfl rfl fun K9 h9 => ?_ | (refine Y3 ?_ ?_; (focus (simp; done)); intro K9 h9) | ((first | refine Y4 rfl ?_ ?_ | refine Y5 rfl ?_ ?_); (focus (simp; done)); intro K9 h9)); simp (disch := (first | (simp; done) | omega | (simp; omega))); (try simp (disch := (first | omega | (simp; omega))) only [X7, X8, X9, Xa, Xb, Xc]); ((first | refine acall_new (deck_call l) (dk_pures _ _) (by simp) ?_ | (refine acall_dc hsm rfl (by omega) (by simp) (fun r b hb hQ hr => ?_); obtain ⟨c, x, hc, hx, rfl⟩ := hQ; clear hr; rw [Ce.c.eq_1, Li.c.eq_1]) | skip) <;> ((repeat (refine Yz ?_)); (first | refine h9 _ _ (Ys ?_) | refine h9 _ _ (Yt ?_)); clear h9 K9))) | refine Y6 ?_ | refine Y7 ?_ | refine Y9 ?_ | ((first | refine Yk (m := 0) (by decide +kernel) [] (by kernel_rfl) (by decide +kernel) ?_); dsimp only [List.replicate, List.append_nil, List.cons_append, List.nil_append, List.length_cons, List.length_nil]) | refine Ya ?_ | (refine Yb rfl (fun hcnd => ?_) (fun hcnd => ?_) <;> (try simp at hcnd) <;> (try contradiction) <;> (try (exfalso; omega))) | refine Yc ?_ | (refine Yd ?_; simp only [X0, X1, X2, X3, X4, X5, X6, Nat.reduceBEq]) | (refine Ye ?_; refine Yf ?_) | (refine Yh ?_ ?_; (focus (simp; done)); refine Ys ?_) | ((first | refine Yi rfl ?_ ?_ | refine Yj rfl ?_ ?_); (focus (simp; done)); refine Yt ?_) | refine Yg ?_ | (simp only [X0, X1, X2, X3, X4, X5, X6, Nat.reduceBEq]))
  refine hK _ _ ?_; clear hK K
  have hfew := hc.few
  have hk : ∀ p ∈ c.info.points, WPk p := fun p hp => (hc.points p hp).k
  have h1 := spoints_call c (by omega) hk
  have h2 := smask_call c x hc.issuer hx.k (by omega) hk
  have h3 := rmask_call c x hc.issuer hx.k (by omega) hk
  have hcv := fun p hp => covers_call c p x hc.issuer hp hx.k
  have hpw := ptsOf_w hk
  have hpl := ptsOf_len c.info.points
  have hb := subM_le (maskT_sub (c := c) hx.r (ptsOf_r hc.points) _ (Nat.le_refl _))
  have hm : maskS c x = maskT c x (ptsOf c.info.points) (ptsOf c.info.points).length := rfl
  rw [hm] at h2 h3
  clear hm
  rw [show ptsV (ptsOf c.info.points) = .sl (ptsOf c.info.points).length ((ptsOf c.info.points).flatMap Pt.c) from rfl] at h1
  generalize ptsOf c.info.points = ps at *
  have hsucc := fun i (h : i < ps.length) => maskT_succ c x h
  have hz : maskT c x ps 0 = 0 := rfl
  have hcells := pts_at ps
  have hll := pts_len ps
  generalize ps.flatMap Pt.c = cells at *
  rw [Ce.c.eq_1] at h1 h2 h3
  rw [Li.c.eq_1] at h2 h3
  clear hsm hc hx hk
  repeat' (first | ((first | refine Y0 rfl fun K9 h9 => ?_ | refine Y1 rfl rfl fun K9 h9 => ?_ | refine Y2 rfl rfl fun K9 h9 => ?_ | (refine Y3 ?_ ?_; (focus (simp; done)); intro K9 h9) | ((first | refine Y4 rfl ?_ ?_ | refine Y5 rfl ?_ ?_); (focus (simp; done)); intro K9 h9)); simp (disch := (first | (simp; done) | omega | (simp; omega))); (try simp (disch := (first | omega | (simp; omega))) only [X7, X8, X9, Xa, Xb, Xc]); ((first | refine acall_pure (h1) (by simp) ?_ | refine acall_pure (h2) (by simp) ?_ | skip) <;> ((repeat (refine Yz ?_)); (first | refine h9 _ _ (Ys ?_) | refine h9 _ _ (Yt ?_)); clear h9 K9))) | refine Y6 ?_ | refine Y7 ?_ | (refine Y8 fun K hK => ?_) | refine Y9 ?_ | (apply hK; clear hK K) | ((first | refine Yk (m := 0) (by decide +kernel) [] (by kernel_rfl) (by decide +kernel) ?_); dsimp only [List.replicate, List.append_nil, List.cons_append, List.nil_append, List.length_cons, List.length_nil]) | refine Ya ?_ | (refine Yb rfl (fun hcnd => ?_) (fun hcnd => ?_) <;> (try simp at hcnd) <;> (try contradiction) <;> (try (exfalso; omega))) | refine Yc ?_ | (refine Yd ?_; simp only [X0, X1, X2, X3, X4, X5, X6, Nat.reduceBEq]) | (refine Ye ?_; refine Yf ?_) | (refine Yh ?_ ?_; (focus (simp; done)); refine Ys ?_) | ((first | refine Yi rfl ?_ ?_ | refine Yj rfl ?_ ?_); (focus (simp; done)); refine Yt ?_) | refine Yg ?_ | (simp only [X0, X1, X2, X3, X4, X5, X6, Nat.reduceBEq]) | (clear hK K; first | (apply hK; clear hK K) | (clear hK K; first | (apply hK; clear hK K) | (clear hK K; first | (apply hK; clear hK K) | (clear hK K; apply hK; clear hK K)))))
  refine awp_countU (fun i => (some V.junk :: none :: some V.junk :: none :: none :: none :: none :: some (V.int .i64 (maskT c x ps i)) :: some (V.int .i64 i) :: some V.junk :: some V.junk :: some V.junk :: some V.junk :: some V.junk :: some V.junk :: some V.junk :: some V.junk :: some V.junk :: some V.junk :: some V.junk :: some V.junk :: some V.junk :: some V.junk :: some V.junk :: some V.junk :: some V.junk :: some V.junk :: some V.junk :: some V.junk :: some V.junk :: some V.junk :: some V.junk :: some V.junk :: some V.junk :: some V.junk :: some V.junk :: some V.junk :: some V.junk :: some V.junk :: some V.junk :: some V.junk :: some V.junk :: some V.junk :: some V.junk :: some V.junk :: some V.junk :: some V.junk :: some V.junk :: some V.junk :: some V.junk :: some V.junk :: some V.junk :: some V.junk :: some V.junk :: some V.junk :: some V.junk :: some V.junk :: some V.junk :: some V.junk :: some V.junk :: some V.junk :: some V.junk :: [])) (fun i => [.live (dk l b), .live [.str c.raw, .str c.tbs, .int .i64 c.serial, nmV c.issuer, nmV c.subject, .int .i64 c.nb, .int .i64 c.na, .int .i64 c.key.h, .str c.key.id, .str c.key.root, .bool c.info.basic, .bool c.info.ca, .int .i64 c.info.plen, .int .i64 c.info.usage, strV c.info.purposes, strV c.info.policies, mpsV c.info.maps, .int .i64 c.info.rexp, .int .i64 c.info.imap, .int .i64 c.info.iany, gnsV c.info.names, .bool c.info.hasC, gnsV c.info.cons.p, gnsV c.info.cons.x, .str c.info.sk, .str c.info.ak, ptsV c.info.points, ptsV c.info.fresh, exsV c.info.unk, .str c.sig], .live [.str x.raw, .str x.tbs, nmV x.issuer, .int .i64 x.this, .int .i64 x.next, .int .i64 x.number, .int .i64 x.base, .str x.ak, .bool x.has, gnsV x.sc.names, .bool x.sc.ou, .bool x.sc.oc, .int .i64 x.sc.reasons, .bool x.sc.ind, ptsV x.fresh, ensV x.entries, .str x.sig]]) ps.length ?_ fun i hi KL hL => ?_
  · dsimp only [ups_some, ups_none, ups_nil, ups_nil']
    exact Le.mk [some 0, some 1, some 2] (by simp [hz]) (rowsRen_of (by simp) (by simp [rowsOver, rowRen_live, rens_pures])) (by simp)
  dsimp only [ups_some, ups_none, ups_nil, ups_nil']
  rcases Nat.lt_or_ge i ps.length with hi | hi
  · have hc1 := hcv ps[i] (hpw _ (List.getElem_mem hi))
    have hg := hcells i hi
    have hs := hsucc i hi
    clear hcv hcells hpw hsucc
    obtain ⟨y, hyy⟩ : ∃ y, ps[i] = y := ⟨_, rfl⟩
    rw [hyy] at hc1 hg hs
    rw [show y.c = [gnsV y.names, .int .i64 y.reasons, .bool y.has, nmV y.issuer] from rfl] at hg hc1
    unfold covV at hc1
    rw [Ce.c.eq_1, Li.c.eq_1] at hc1
    generalize coversS c y x = R at *
    repeat' (first | ((first | refine Y0 rfl fun K9 h9 => ?_ | refine Y1 rfl rfl fun K9 h9 => ?_ | refine Y2 rfl rfl fun K9 h9 => ?_ | (refine Y3 ?_ ?_; (focus (simp [hg]; done)); intro K9 h9) | ((first | refine Y4 rfl ?_ ?_ | refine Y5 rfl ?_ ?_); (focus (simp [hg]; done)); intro K9 h9)); simp (disch := (first | (simp; done) | omega | (simp; omega))) [hg]; (try simp (disch := (first | omega | (simp; omega))) only [X7, X8, X9, Xa, Xb, Xc]); ((first | refine ⟨_, hc1, ?_⟩ | skip) <;> ((repeat (refine Yz ?_)); (first | refine h9 _ _ (Ys ?_) | refine h9 _ _ (Yt ?_)); clear h9 K9))) | refine Y6 ?_ | refine Y7 ?_ | (refine Y8 fun K hK => ?_) | refine Y9 ?_ | (apply hK; clear hK K) | ((first | refine Yk (m := 0) (by decide +kernel) [0,0,0,0,0,0,1,0,0,0,0,0] (by kernel_rfl) (by decide +kernel) ?_ | refine Yk (m := 0) (by decide +kernel) [] (by kernel_rfl) (by decide +kernel) ?_); dsimp only [List.replicate, List.append_nil, List.cons_append, List.nil_append, List.length_cons, List.length_nil]) | refine Ya ?_ | (refine Yb rfl (fun hcnd => ?_) (fun hcnd => ?_) <;> (try simp at hcnd) <;> (try contradiction) <;> (try (exfalso; omega))) | refine Yc ?_ | (refine Yd ?_; simp only [X0, X1, X2, X3, X4, X5, X6, Nat.reduceBEq]) | (refine Ye ?_; refine Yf ?_) | (refine Yh ?_ ?_; (focus (simp [hg]; done)); refine Ys ?_) | ((first | refine Yi rfl ?_ ?_ | refine Yj rfl ?_ ?_); (focus (simp [hg]; done)); refine Yt ?_) | refine Yg ?_ | (simp only [X0, X1, X2, X3, X4, X5, X6, Nat.reduceBEq]) | (clear hK K; first | (apply hK; clear hK K) | (clear hK K; first | (apply hK; clear hK K) | (clear hK K; first | (apply hK; clear hK K) | (clear hK K; apply hK; clear hK K)))))
    refine hL _ _ hi ?_
    rw [hs]
    exact Yr [some 0, some 1, some 2] (by simp [rowsOver, rowRen_live, rens_pures])
  · obtain rfl : i = ps.length := by omega
    generalize maskT c x ps ps.length = MS at *
    obtain ⟨b0, b1⟩ := hb
    repeat' (first | ((first | refine Yl rfl fun K9 h9 => ?_ | refine Y1 rfl rfl fun K9 h9 => ?_ | refine Y2 rfl rfl fun K9 h9 => ?_ | (refine Ym ?_ ?_; (focus (simp [b0, b1]; done)); intro K9 h9) | ((first | refine Y4 rfl ?_ ?_ | refine Y5 rfl ?_ ?_); (focus (simp [b0, b1]; done)); intro K9 h9)); simp (disch := (first | (simp; done) | omega | (simp; omega))) [b0, b1]; (try simp (disch := (first | omega | (simp; omega))) only [X7, X8, X9, Xa, Xb, Xc]); ((first | refine acall_pure (h3) (by simp) ?_ | refine acall_pure (aw) (by simp) ?_ | skip) <;> ((repeat (refine Yz ?_)); (first | refine h9 _ _ (Yp ?_) | refine h9 _ _ (Yt ?_)); clear h9 K9))) | refine Yo ?_ | refine Y7 ?_ | (refine Y8 fun K hK => ?_) | refine Yq ?_ | (apply hK; clear hK K) | ((first | refine Yk (m := 0) (by decide +kernel) [] (by kernel_rfl) (by decide +kernel) ?_); dsimp only [List.replicate, List.append_nil, List.cons_append, List.nil_append, List.length_cons, List.length_nil]) | refine Ya ?_ | (refine Yb rfl (fun hcnd => ?_) (fun hcnd => ?_) <;> (try simp at hcnd) <;> (try contradiction) <;> (try (exfalso; omega))) | refine Yc ?_ | (refine Yd ?_; simp only [X0, X1, X2, X3, X4, X5, X6, Nat.reduceBEq]) | (refine Ye ?_; refine Yf ?_) | (refine Yn ?_ ?_; (focus (simp [b0, b1]; done)); refine Yp ?_) | ((first | refine Yi rfl ?_ ?_ | refine Yj rfl ?_ ?_); (focus (simp [b0, b1]; done)); refine Yt ?_) | refine Yg ?_ | (simp only [X0, X1, X2, X3, X4, X5, X6, Nat.reduceBEq]) | (clear hK K; first | (apply hK; clear hK K) | (clear hK K; first | (apply hK; clear hK K) | (clear hK K; first | (apply hK; clear hK K) | (clear hK K; apply hK; clear hK K)))))
    (try simp)
    exact .pure .bool
  · exact .bool
theorem scopeMasks_fits : ∀ xs, FitsAll Tryd.prog 8 Tryd.f4.params.toList xs → PCall Tryd.prog 4 xs (.bool true) := by
  intro xs h
  rw [show Tryd.f4.params.toList = [22] by kernel_rfl] at h
  obtain ⟨x1, xs, rfl, h1, h⟩ := fitsAll_cons h
  obtain rfl := fitsAll_nil h
  obtain ⟨l, hl, hr, rfl⟩ := fits_ints (e := 3) (by kernel_rfl) (by kernel_rfl) h1
  exact scopeMasks_call l hl hr
end Go.Proofs.YtbdfghlkkdkpgaaDoor

