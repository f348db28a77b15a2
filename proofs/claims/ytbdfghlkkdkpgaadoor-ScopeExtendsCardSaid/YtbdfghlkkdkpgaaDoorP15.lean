/-
  SCOPE: ScopePlain, ScopeReasonsMeet, ScopeExtends.
  Conditions: none.
-/
import Derived.Test.YtbdfghlkkdkpgaaDoorGe
import Derived.Test.YtbdfghlkkdkpgaaDoorGf
import Derived.Test.YtbdfghlkkdkpgaaDoorP1
import Derived.Test.YtbdfghlkkdkpgaaDoorP2
import Derived.Test.YtbdfghlkkdkpgaaDoorP3
import Derived.Test.YtbdfghlkkdkpgaaDoorP4
import Derived.Test.YtbdfghlkkdkpgaaDoorP5
import Derived.Test.YtbdfghlkkdkpgaaDoorP6
import Derived.Test.YtbdfghlkkdkpgaaDoorP7
import Derived.Test.YtbdfghlkkdkpgaaDoorP8
import Derived.Test.YtbdfghlkkdkpgaaDoorP9
import Derived.Test.YtbdfghlkkdkpgaaDoorP10
import Derived.Test.YtbdfghlkkdkpgaaDoorP11
import Derived.Test.YtbdfghlkkdkpgaaDoorP12
import Derived.Test.YtbdfghlkkdkpgaaDoorP13
import Derived.Test.YtbdfghlkkdkpgaaDoorGj
import Derived.Test.YtbdfghlkkdkpgaaDoorGl
import Derived.Test.YtbdfghlkkdkpgaaDoorQ6
import Derived.Test.YtbdfghlkkdkpgaaDoorQ7
import Derived.Test.YtbdfghlkkdkpgaaDoorQ25
import Derived.Test.YtbdfghlkkdkpgaaDoorQ26
import Derived.Test.YtbdfghlkkdkpgaaDoorQ27
import Derived.Test.YtbdfghlkkdkpgaaDoorQ28
import Derived.Test.YtbdfghlkkdkpgaaDoorQ29
import Derived.Test.YtbdfghlkkdkpgaaDoorTab
import Derived.Test.YtbdfghlkkdkpgaaDoorGd
import Derived.Test.YtbdfghlkkdkpgaaDoorGi
import Derived.Test.YtbdfghlkkdkpgaaDoorVs31
import Derived.Test.YtbdfghlkkdkpgaaDoorVs33
import Derived.Test.YtbdfghlkkdkpgaaDoorVs34
import Derived.Test.YtbdfghlkkdkpgaaDoorVs35
import Derived.Test.YtbdfghlkkdkpgaaDoorVs36
import Derived.Test.YtbdfghlkkdkpgaaDoorVs37
set_option linter.all false
namespace Go.Stp
open Go.VS
theorem nameB_self : ∀ k, k < 16 → nameB (authN k) (authN k) = true := by decide +kernel
def cpl (n : Nm) (ca : Bool) (ps : List Pt) : Ce := { c0s 0 n ca with info := { (c0s 0 n ca).info with points := ps } }
theorem plain_cov {n : Nm} {ca : Bool} {ps : List Pt} {p : Pt} (h : nameB n n = true) (hp : p.has = false) (hr : p.reasons = 0) : (coversS (cpl n ca ps) p (lz n false false 0 0 0)).1 = 510 := by
  unfold coversS
  rw [if_neg (by simp [hp, cpl, c0s, lz, h]), if_neg (by simp [cpl, c0s, lz, h]), if_neg (by simp [lz]), if_neg (by simp [coverM, lz, hr, allM])]
  simp [coverM, lz, hr, allM]
theorem or_zero_510 : bits .or .i64 0 510 = 510 := by decide +kernel
theorem plain_mask {n : Nm} {ca : Bool} {ps : List Pt} (h : nameB n n = true) (hp : ps = [] ∨ ∃ g, ps = [⟨[g], 0, false, []⟩]) : maskS (cpl n ca ps) (lz n false false 0 0 0) = 510 := by
  rcases hp with rfl | ⟨g, rfl⟩
  · show bits .or .i64 0 (coversS (cpl n ca []) pt0 (lz n false false 0 0 0)).1 = 510
    rw [plain_cov h rfl rfl]
    exact or_zero_510
  · show bits .or .i64 0 (coversS (cpl n ca [⟨[g], 0, false, []⟩]) ⟨[g], 0, false, []⟩ (lz n false false 0 0 0)).1 = 510
    rw [plain_cov h rfl rfl]
    exact or_zero_510
theorem meet_all : ∀ k : Nat, k < 256 → (let a := maskS (c0s 0 (authN 0) false) (lz (authN 0) true false ((k : Int) * 2) 0 0); let b := maskS (c0s 0 (authN 0) false) (lz (authN 0) true false (bits .andNot .i64 510 ((k : Int) * 2)) 0 0); ((((k : Int) * 2) = 0 ∨ ((k : Int) * 2) = 510) ∧ a = 510 ∧ b = 510) ∨ (¬ ((k : Int) * 2) = 0 ∧ ¬ ((k : Int) * 2) = 510 ∧ a = (k : Int) * 2 ∧ bits .or .i64 a b = 510 ∧ bits .and .i64 a b = 0)) := by decide +kernel
theorem ext_self (a : Li) : extB a a = false := by simp [extB]
end Go.Stp
namespace Go.Proofs.YtbdfghlkkdkpgaaDoor
open Go.VS Go.Stp
set_option linter.all false
set_option maxRecDepth 100000
set_option maxHeartbeats 16000000
attribute [local irreducible] arun arunD arunU AWp aend bits

theorem scopeExtends_call (l : List Int) (al : Bool) (hl : l.length ≤ 140737488355328) (hr : ∀ k ∈ l, -9223372036854775808 ≤ k ∧ k ≤ 9223372036854775807) : PCall Tryd.prog 7 [.sl l.length (l.map (V.int .i64)), .bool al] (.bool true) := by
  have aw := awake27_call
  have hls := list_dc (l := l) ⟨hl, hr⟩
  refine pcall_body Tryd.func7 rfl Tryd.call7 ?_ ?_
  rotate_left 1
  refine awp_slots (s' := [(.sl l.length (l.map (V.int .i64)) : V), (.bool al : V), .junk, .junk, .junk, .junk, .junk, .junk, .junk, .junk, .junk, .junk, .junk, .junk, .junk, .junk, .junk, .junk, .junk, .junk, .junk, .junk, .junk, .junk, .junk, .junk, .junk, .junk, .junk, .junk, .junk, .junk, .junk, .junk, .junk, .junk, .junk, .junk, .junk, .junk, .junk, .junk, .junk, .junk, .junk, .junk, .junk, .junk, .junk, .junk, .junk, .junk, .junk, .junk, .junk, .junk, .junk]) rfl ?_
  have n4 : DC Tryd.prog 18 [.int .i64 4] l (IntQ 4) := next_dc ⟨hl, hr⟩ 4 (by omega) (by omega)
  have a8 : PCall Tryd.prog 17 [.int .i64 8] (.agg [nmV (authN 8)]) := auth_call 8 (by omega)
  refine awp_seq fun K hK => ?_
  repeat' (first | ((first | refine Y0 rfl fun K9 h9 => ?_ | refine Y1 rfl rfl fun K9 h9 => ?_ | refine Y2 rfl rfl fun K9 h9 => ?_ | (refine Y3 ?_ ?_; (focus (simp; done)); intro K9 h9) | ((first | refine Y4 rfl ?_ ?_ | refine Y5 rfl ?_ ?_); (focus (simp; done)); intro K9 h9)); simp (disch := (first | (simp; done) | omega | (simp; omega))); (try simp (disch := (first | omega | (simp; omega))) only [X7, X8, X9, Xa, Xb, Xc]); ((first | refine acall_new (deck_call l) (dk_pures _ _) (by simp) ?_ | (refine acall_dc hls rfl (by omega) (by simp) (fun r b hb hQ hr => ?_); obtain ⟨x, hx, rfl⟩ := hQ; clear hr; rw [Li.c.eq_1]) | skip) <;> ((repeat (refine Yz ?_)); (first | refine h9 _ _ (Ys ?_) | refine h9 _ _ (Yt ?_)); clear h9 K9))) | refine Y6 ?_ | refine Y7 ?_ | refine Y9 ?_ | ((first | refine Yk (m := 0) (by decide +kernel) [] (by kernel_rfl) (by decide +kernel) ?_); dsimp only [List.replicate, List.append_nil, List.cons_append, List.nil_append, List.length_cons, List.length_nil]) | (refine Yb rfl (fun hcnd => ?_) (fun hcnd => ?_) <;> (try simp at hcnd) <;> (try contradiction) <;> (try (exfalso; omega))) | refine Yc ?_ | (refine Ye ?_; refine Yf ?_) | (refine Yh ?_ ?_; (focus (simp; done)); refine Ys ?_) | ((first | refine Yi rfl ?_ ?_ | refine Yj rfl ?_ ?_); (focus (simp; done)); refine Yt ?_) | refine Yg ?_ | (simp only [X0, X1, X2, X3, X4, X5, X6, Nat.reduceBEq]))
  refine hK _ _ ?_; clear hK K
  refine awp_seq fun K hK => ?_
  repeat' (first | ((first | refine Y0 rfl fun K9 h9 => ?_ | refine Y1 rfl rfl fun K9 h9 => ?_ | refine Y2 rfl rfl fun K9 h9 => ?_ | (refine Y3 ?_ ?_; (focus (simp; done)); intro K9 h9) | ((first | refine Y4 rfl ?_ ?_ | refine Y5 rfl ?_ ?_); (focus (simp; done)); intro K9 h9)); simp (disch := (first | (simp; done) | omega | (simp; omega))); (try simp (disch := (first | omega | (simp; omega))) only [X7, X8, X9, Xa, Xb, Xc]); ((first | refine acall_new (deck_call l) (dk_pures _ _) (by simp) ?_ | (refine acall_dc hls rfl (by omega) (by simp) (fun r b hb hQ hr => ?_); obtain ⟨x, hx, rfl⟩ := hQ; clear hr; rw [Li.c.eq_1]) | skip) <;> ((repeat (refine Yz ?_)); (first | refine h9 _ _ (Ys ?_) | refine h9 _ _ (Yt ?_)); clear h9 K9))) | refine Y6 ?_ | refine Y7 ?_ | refine Y9 ?_ | ((first | refine Yk (m := 0) (by decide +kernel) [] (by kernel_rfl) (by decide +kernel) ?_); dsimp only [List.replicate, List.append_nil, List.cons_append, List.nil_append, List.length_cons, List.length_nil]) | (refine Yb rfl (fun hcnd => ?_) (fun hcnd => ?_) <;> (try simp at hcnd) <;> (try contradiction) <;> (try (exfalso; omega))) | refine Yc ?_ | (refine Ye ?_; refine Yf ?_) | (refine Yh ?_ ?_; (focus (simp; done)); refine Ys ?_) | ((first | refine Yi rfl ?_ ?_ | refine Yj rfl ?_ ?_); (focus (simp; done)); refine Yt ?_) | refine Yg ?_ | (simp only [X0, X1, X2, X3, X4, X5, X6, Nat.reduceBEq]))
  refine hK _ _ ?_; clear hK K
  refine awp_seq fun K hK => ?_
  repeat' (first | ((first | refine Y0 rfl fun K9 h9 => ?_ | refine Y1 rfl rfl fun K9 h9 => ?_ | refine Y2 rfl rfl fun K9 h9 => ?_ | (refine Y3 ?_ ?_; (focus (simp; done)); intro K9 h9) | ((first | refine Y4 rfl ?_ ?_ | refine Y5 rfl ?_ ?_); (focus (simp; done)); intro K9 h9)); simp (disch := (first | (simp; done) | omega | (simp; omega))); (try simp (disch := (first | omega | (simp; omega))) only [X7, X8, X9, Xa, Xb, Xc]); ((first | refine acall_new (deck_call l) (dk_pures _ _) (by simp) ?_ | (refine acall_dc hls rfl (by omega) (by simp) (fun r b hb hQ hr => ?_); obtain ⟨x, hx, rfl⟩ := hQ; clear hr; rw [Li.c.eq_1]) | skip) <;> ((repeat (refine Yz ?_)); (first | refine h9 _ _ (Ys ?_) | refine h9 _ _ (Yt ?_)); clear h9 K9))) | refine Y6 ?_ | refine Y7 ?_ | refine Y9 ?_ | ((first | refine Yk (m := 0) (by decide +kernel) [] (by kernel_rfl) (by decide +kernel) ?_); dsimp only [List.replicate, List.append_nil, List.cons_append, List.nil_append, List.length_cons, List.length_nil]) | (refine Yb rfl (fun hcnd => ?_) (fun hcnd => ?_) <;> (try simp at hcnd) <;> (try contradiction) <;> (try (exfalso; omega))) | refine Yc ?_ | (refine Ye ?_; refine Yf ?_) | (refine Yh ?_ ?_; (focus (simp; done)); refine Ys ?_) | ((first | refine Yi rfl ?_ ?_ | refine Yj rfl ?_ ?_); (focus (simp; done)); refine Yt ?_) | refine Yg ?_ | (simp only [X0, X1, X2, X3, X4, X5, X6, Nat.reduceBEq]))
  refine hK _ _ ?_; clear hK K
  rename_i bA hbA xA hxA
  refine awp_seqJ fun K1 hK1 hJ1 => ?_
  have main1 : ∀ (a b : Li) (q : Nat), WLk a → WLk b → q ≤ l.length → K1 ([.junk, .junk, .junk, .junk, .junk, .junk, .ref 1 0, .ref 2 0, .junk, .junk, .junk, .junk, .junk, .junk, .junk, .junk, .junk, .junk, .junk, .junk, .junk, .junk, .junk, .junk, .junk, .junk, .junk, .junk, .junk, .junk, .junk, .junk, .junk, .junk, .junk, .junk, .junk, .junk, .junk, .junk, .junk, .junk, .junk, .junk, .junk, .junk, .junk, .junk, .junk, .junk, .junk, .junk, .junk, .junk, .junk, .junk, .junk]) [.live (dk l q), .live [.str a.raw, .str a.tbs, nmV a.issuer, .int .i64 a.this, .int .i64 a.next, .int .i64 a.number, .int .i64 a.base, .str a.ak, .bool a.has, gnsV a.sc.names, .bool a.sc.ou, .bool a.sc.oc, .int .i64 a.sc.reasons, .bool a.sc.ind, ptsV a.fresh, ensV a.entries, .str a.sig], .live [.str b.raw, .str b.tbs, nmV b.issuer, .int .i64 b.this, .int .i64 b.next, .int .i64 b.number, .int .i64 b.base, .str b.ak, .bool b.has, gnsV b.sc.names, .bool b.sc.ou, .bool b.sc.oc, .int .i64 b.sc.reasons, .bool b.sc.ind, ptsV b.fresh, ensV b.entries, .str b.sig]] := by
    intro a b q ha hb hq
    refine hK1 _ _ ?_
    clear hK1 hJ1
    clear K1
    have e1 := ext_call a b ha hb
    have e2 := rext_call a b ha hb
    have e3 := ext_call b a hb ha
    have e4 := rext_call b a hb ha
    have e5 := ext_call a a ha ha
    rw [ext_self] at e5
    rw [Li.c.eq_1, Li.c.eq_1] at e1 e2 e3 e4
    rw [Li.c.eq_1] at e5
    generalize extB a b = E1 at *
    generalize extB b a = E2 at *
    repeat' (first | ((first | refine Y0 rfl fun K9 h9 => ?_ | refine Y1 rfl rfl fun K9 h9 => ?_ | refine Y2 rfl rfl fun K9 h9 => ?_ | (refine Y3 ?_ ?_; (focus (simp; done)); intro K9 h9) | ((first | refine Y4 rfl ?_ ?_ | refine Y5 rfl ?_ ?_); (focus (simp; done)); intro K9 h9)); simp (disch := (first | (simp; done) | omega | (simp; omega))); (try simp (disch := (first | omega | (simp; omega))) only [X7, X8, X9, Xa, Xb, Xc]); ((first | refine ⟨_, e1, ?_⟩ | refine ⟨_, e2, ?_⟩ | refine ⟨_, e3, ?_⟩ | refine ⟨_, e4, ?_⟩ | refine ⟨_, e5, ?_⟩ | refine ⟨_, aw, ?_⟩ | skip) <;> ((repeat (refine Yz ?_)); (first | refine h9 _ _ (Ys ?_) | refine h9 _ _ (Yt ?_)); clear h9 K9))) | refine Y6 ?_ | refine Y7 ?_ | (refine Y8 fun K hK => ?_) | refine Y9 ?_ | (apply hK; clear hK K) | ((first | refine Yk (m := 0) (by decide +kernel) [0,0,1,0,0,1,0,0,0,0,1,0,0,1,0,0,0,0,0,1,0,0,0,1,0] (by kernel_rfl) (by decide +kernel) ?_ | refine Yk (m := 0) (by decide +kernel) [] (by kernel_rfl) (by decide +kernel) ?_); dsimp only [List.replicate, List.append_nil, List.cons_append, List.nil_append, List.length_cons, List.length_nil]) | (refine Yb rfl (fun hcnd => ?_) (fun hcnd => ?_) <;> (try simp at hcnd) <;> (try contradiction) <;> (try (exfalso; omega))) | refine Yc ?_ | (refine Ye ?_; refine Yf ?_) | (refine Yh ?_ ?_; (focus (simp; done)); refine Ys ?_) | ((first | refine Yi rfl ?_ ?_ | refine Yj rfl ?_ ?_); (focus (simp; done)); refine Yt ?_) | refine Yg ?_ | (simp only [X0, X1, X2, X3, X4, X5, X6, Nat.reduceBEq]) | (clear hK K; first | (apply hK; clear hK K) | (clear hK K; first | (apply hK; clear hK K) | (clear hK K; first | (apply hK; clear hK K) | (clear hK K; apply hK; clear hK K)))))
    (try simp)
    exact .pure .bool
  clear hK1
  cases al
  · repeat' (first | ((first | refine Y0 rfl fun K9 h9 => ?_ | refine Y1 rfl rfl fun K9 h9 => ?_ | refine Y2 rfl rfl fun K9 h9 => ?_ | (refine Y3 ?_ ?_; (focus (simp; done)); intro K9 h9) | ((first | refine Y4 rfl ?_ ?_ | refine Y5 rfl ?_ ?_); (focus (simp; done)); intro K9 h9)); simp (disch := (first | (simp; done) | omega | (simp; omega))); (try simp (disch := (first | omega | (simp; omega))) only [X7, X8, X9, Xa, Xb, Xc]); ((repeat (refine Yz ?_)); (first | refine h9 _ _ (Ys ?_) | refine h9 _ _ (Yt ?_)); clear h9 K9)) | refine Y6 ?_ | refine Y7 ?_ | (refine Y8 fun K hK => ?_) | refine Y9 ?_ | (apply hK; clear hK K) | ((first | refine Yk (m := 0) (by decide +kernel) [] (by kernel_rfl) (by decide +kernel) ?_); dsimp only [List.replicate, List.append_nil, List.cons_append, List.nil_append, List.length_cons, List.length_nil]) | (refine Yb rfl (fun hcnd => ?_) (fun hcnd => ?_) <;> (try simp at hcnd) <;> (try contradiction) <;> (try (exfalso; omega))) | refine Yc ?_ | (refine Ye ?_; refine Yf ?_) | (refine Yh ?_ ?_; (focus (simp; done)); refine Ys ?_) | ((first | refine Yi rfl ?_ ?_ | refine Yj rfl ?_ ?_); (focus (simp; done)); refine Yt ?_) | refine Yg ?_ | (simp only [X0, X1, X2, X3, X4, X5, X6, Nat.reduceBEq]) | (clear hK K; first | (apply hK; clear hK K) | (clear hK K; first | (apply hK; clear hK K) | (clear hK K; first | (apply hK; clear hK K) | (clear hK K; apply hK; clear hK K)))))
    refine hJ1.le _ _ _ _ ?_ (main1 xA x b hxA.k hx.k hb)
    exact Yr [some 0, some 1, some 2] (by simp [rowsOver, rowRen_live, rens_pures])
  · repeat' (first | ((first | refine Y0 rfl fun K9 h9 => ?_ | refine Y1 rfl rfl fun K9 h9 => ?_ | refine Y2 rfl rfl fun K9 h9 => ?_ | (refine Y3 ?_ ?_; (focus (simp; done)); intro K9 h9) | ((first | refine Y4 rfl ?_ ?_ | refine Y5 rfl ?_ ?_); (focus (simp; done)); intro K9 h9)); simp (disch := (first | (simp; done) | omega | (simp; omega))); (try simp (disch := (first | omega | (simp; omega))) only [X7, X8, X9, Xa, Xb, Xc]); ((first | (refine acall_dc n4 rfl (by omega) (by simp) (fun r q hq hQ hr => ?_); obtain ⟨w, w1, w2, rfl⟩ := hQ; clear hr) | refine acall_pure (a8) (by simp) ?_ | skip) <;> ((repeat (refine Yz ?_)); (first | refine h9 _ _ (Ys ?_) | refine h9 _ _ (Yt ?_)); clear h9 K9))) | refine Y6 ?_ | refine Y7 ?_ | (refine Y8 fun K hK => ?_) | refine Y9 ?_ | (apply hK; clear hK K) | ((first | refine Yk (m := 0) (by decide +kernel) [] (by kernel_rfl) (by decide +kernel) ?_); dsimp only [List.replicate, List.append_nil, List.cons_append, List.nil_append, List.length_cons, List.length_nil]) | (refine Yb rfl (fun hcnd => ?_) (fun hcnd => ?_) <;> (try simp at hcnd) <;> (try contradiction) <;> (try (exfalso; omega))) | refine Yc ?_ | (refine Ye ?_; refine Yf ?_) | (refine Yh ?_ ?_; (focus (simp; done)); refine Ys ?_) | ((first | refine Yi rfl ?_ ?_ | refine Yj rfl ?_ ?_); (focus (simp; done)); refine Yt ?_) | refine Yg ?_ | (simp only [X0, X1, X2, X3, X4, X5, X6, Nat.reduceBEq]) | (clear hK K; first | (apply hK; clear hK K) | (clear hK K; first | (apply hK; clear hK K) | (clear hK K; first | (apply hK; clear hK K) | (clear hK K; apply hK; clear hK K)))))
    · refine hJ1.le _ _ _ _ ?_ (main1 { xA with base := -1 } { xA with number := x.number, base := x.base, issuer := authN 8 } q ⟨hxA.k.issuer, hxA.k.names, hxA.k.few⟩ ⟨authN_w _, hxA.k.names, hxA.k.few⟩ hq)
      exact Yr [some 0, some 1, some 2] (by simp [rowsOver, rowRen_live, rens_pures])
    · refine hJ1.le _ _ _ _ ?_ (main1 { xA with base := -1 } { xA with number := x.number, base := x.base } q ⟨hxA.k.issuer, hxA.k.names, hxA.k.few⟩ ⟨hxA.k.issuer, hxA.k.names, hxA.k.few⟩ hq)
      exact Yr [some 0, some 1, some 2] (by simp [rowsOver, rowRen_live, rens_pures])
  · exact .bool
theorem scopeExtends_fits : ∀ xs, FitsAll Tryd.prog 8 Tryd.f7.params.toList xs → PCall Tryd.prog 7 xs (.bool true) := by
  intro xs h
  rw [show Tryd.f7.params.toList = [22, 4] by kernel_rfl] at h
  obtain ⟨x1, xs, rfl, h1, h⟩ := fitsAll_cons h
  obtain ⟨x2, xs, rfl, h2, h⟩ := fitsAll_cons h
  obtain rfl := fitsAll_nil h
  obtain ⟨l, hl, hr, rfl⟩ := fits_ints (e := 3) (by kernel_rfl) (by kernel_rfl) h1
  obtain ⟨b, rfl⟩ := fits_bool (by kernel_rfl) h2
  exact scopeExtends_call l b hl hr
end Go.Proofs.YtbdfghlkkdkpgaaDoor
