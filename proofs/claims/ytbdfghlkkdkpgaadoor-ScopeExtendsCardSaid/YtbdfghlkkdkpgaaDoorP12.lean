/-
  SCOPE: a certificate and a list from a deck.
  Conditions: none.
-/
import Derived.Test.YtbdfghlkkdkpgaaDoorGe
import Derived.Test.YtbdfghlkkdkpgaaDoorGf
import Derived.Test.YtbdfghlkkdkpgaaDoorP1
import Derived.Test.YtbdfghlkkdkpgaaDoorP2
import Derived.Test.YtbdfghlkkdkpgaaDoorP3
import Derived.Test.YtbdfghlkkdkpgaaDoorP4
import Derived.Test.YtbdfghlkkdkpgaaDoorP10
import Derived.Test.YtbdfghlkkdkpgaaDoorGj
import Derived.Test.YtbdfghlkkdkpgaaDoorGl
import Derived.Test.YtbdfghlkkdkpgaaDoorQ6
import Derived.Test.YtbdfghlkkdkpgaaDoorQ7
import Derived.Test.YtbdfghlkkdkpgaaDoorQ25
import Derived.Test.YtbdfghlkkdkpgaaDoorQ26
import Derived.Test.YtbdfghlkkdkpgaaDoorQ27
import Derived.Test.YtbdfghlkkdkpgaaDoorQ28
import Derived.Test.YtbdfghlkkdkpgaaDoorQ29
import Derived.Test.YtbdfghlkkdkpgaaDoorTab
import Derived.Test.YtbdfghlkkdkpgaaDoorGd
import Derived.Test.YtbdfghlkkdkpgaaDoorGi
import Derived.Test.YtbdfghlkkdkpgaaDoorVs33
import Derived.Test.YtbdfghlkkdkpgaaDoorVs34
import Derived.Test.YtbdfghlkkdkpgaaDoorVs35
import Derived.Test.YtbdfghlkkdkpgaaDoorVs36
import Derived.Test.YtbdfghlkkdkpgaaDoorVs37
set_option linter.all false
namespace Go.Stp
open Go.VS
structure WCs (c : Ce) : Prop where
  issuer : WN c.issuer
  points : ∀ p ∈ c.info.points, WPt p
  few : c.info.points.length ≤ 3
def c0s (k : Int) (n : Nm) (ca : Bool) : Ce := ⟨[], [], k, n, [], 0, 0, ⟨0, [], []⟩, ⟨false, ca, 0, 0, [], [], [], 0, 0, 0, [], false, ⟨[], []⟩, [], [], [], [], []⟩, []⟩
theorem c0s_w {k : Int} {n : Nm} {ca : Bool} (h : WN n) : WCs (c0s k n ca) := ⟨h, fun p hp => by simp [c0s] at hp, by simp [c0s]⟩
theorem ares_cell2 {P : Program} {s : List V} {rows : List Row} {rs : List ResultVar} {k : V → Prop} {a a' : Nat} {t t' : TypeId} {cs cs' : List V} (id id' n n' : Nat) (hrs : rs = [.cell a t, .cell a' t']) (ha : sget s a = .ref id 0) (ha' : sget s a' = .ref id' 0) (hrow : rows[id]? = some (.live cs)) (hrow' : rows[id']? = some (.live cs')) (hne : cs ≠ []) (hne' : cs' ≠ []) (hu : uagg P t = some true) (hu' : uagg P t' = some true) (hn : usz P t = some n) (hn' : usz P t' = some n') (hle : cs.length = n) (hle' : cs'.length = n') (h : k (.tup [.agg cs, .agg cs'])) : ares P s rows rs k := by
  subst hrs
  simp only [ares, aresL, ares1, ha, ha', aload, acells, hu, hu']
  refine ⟨cs, hrow, hne, n, hn, by omega, cs', hrow', hne', n', hn', by omega, ?_⟩
  simp only [List.drop_zero, Nat.zero_add, ← hle, ← hle', List.take_length]
  exact h
end Go.Stp
namespace Go.Proofs.YtbdfghlkkdkpgaaDoor
open Go.VS Go.Stp
set_option linter.all false
set_option maxRecDepth 100000
set_option maxHeartbeats 16000000
attribute [local irreducible] arun arunD arunU AWp aend aTree
theorem auth_i (x : Int) (h0 : 0 ≤ x) (h : x < 16) : PCall Tryd.prog 17 [.int .i64 x] (.agg [nmV (authN x.toNat)]) := by
  have := auth_call x.toNat (by omega)
  rwa [show ((x.toNat : Nat) : Int) = x by omega] at this

theorem some_dc {l : List Int} (h : DkOk l) : DC Tryd.prog 8 [] l (fun r => ∃ (c : Ce) (x : Li), WCs c ∧ WLi x ∧ r = .tup [.agg c.c, .agg x.c]) := by
  intro a ha
  have n2 : DC Tryd.prog 18 [.int .i64 2] l (IntQ 2) := next_dc h 2 (by omega) (by omega)
  have n3 : DC Tryd.prog 18 [.int .i64 3] l (IntQ 3) := next_dc h 3 (by omega) (by omega)
  have n4 : DC Tryd.prog 18 [.int .i64 4] l (IntQ 4) := next_dc h 4 (by omega) (by omega)
  have n5 : DC Tryd.prog 18 [.int .i64 5] l (IntQ 5) := next_dc h 5 (by omega) (by omega)
  have hpt := points_dc h
  have hls := list_dc h
  refine eg_body Tryd.func8 rfl Tryd.call8 ?_
  refine awp_slots (s' := [(.ref 0 0 : V), .junk, .junk, .junk, .junk, .junk, .junk, .junk, .junk, .junk, .junk, .junk, .junk, .junk, .junk, .junk, .junk, .junk, .junk, .junk, .junk, .junk, .junk, .junk, .junk, .junk, .junk, .junk, .junk]) rfl ?_
  refine awp_rows (rows' := [.live (dk l a)]) rfl ?_
  refine awp_seq fun K hK => ?_
  repeat' (first | ((first | refine Y0 rfl fun K9 h9 => ?_ | refine Y1 rfl rfl fun K9 h9 => ?_ | refine Y2 rfl rfl fun K9 h9 => ?_); simp (disch := (first | (simp; done) | omega | (simp; omega))); (try simp (disch := (first | omega | (simp; omega))) only [X7, X8, X9, Xa, Xb, Xc]); ((first | (refine acall_dc n5 rfl (by assumption) (by simp) (fun r xa' ha' hQ hr => ?_); obtain ⟨x, x1, x2, rfl⟩ := hQ; clear hr) | (refine acall_dc n4 rfl (by assumption) (by simp) (fun r ya' ha' hQ hr => ?_); obtain ⟨y, y1, y2, rfl⟩ := hQ; clear hr) | (refine acall_dc n2 rfl (by assumption) (by simp) (fun r za' ha' hQ hr => ?_); obtain ⟨z, z1, z2, rfl⟩ := hQ; clear hr) | refine acall_pure (auth_i _ (by omega) (by omega)) (by simp) ?_ | skip) <;> ((repeat (refine Yz ?_)); (first | refine h9 _ _ (Ys ?_) | refine h9 _ _ (Yt ?_)); clear h9 K9))) | refine Y6 ?_ | refine Y7 ?_ | refine Y9 ?_ | ((first | refine Yk (m := 0) (by decide +kernel) [] (by kernel_rfl) (by decide +kernel) ?_); dsimp only [List.replicate, List.append_nil, List.cons_append, List.nil_append, List.length_cons, List.length_nil]) | (refine Yb rfl (fun hcnd => ?_) (fun hcnd => ?_) <;> (try simp at hcnd) <;> (try contradiction) <;> (try (exfalso; omega))) | refine Yc ?_ | (refine Ye ?_; refine Yf ?_) | refine Yg ?_ | (simp only [X0, X1, X2, X3, X4, X5, X6, Nat.reduceBEq]))
  refine hK _ _ ?_; clear hK K
  refine awp_seq fun K hK => ?_
  repeat' (first | ((first | refine Y0 rfl fun K9 h9 => ?_ | refine Y1 rfl rfl fun K9 h9 => ?_ | refine Y2 rfl rfl fun K9 h9 => ?_); simp (disch := (first | (simp; done) | omega | (simp; omega))); (try simp (disch := (first | omega | (simp; omega))) only [X7, X8, X9, Xa, Xb, Xc]); ((first | (refine acall_dc n5 rfl (by assumption) (by simp) (fun r xa' ha' hQ hr => ?_); obtain ⟨x, x1, x2, rfl⟩ := hQ; clear hr) | (refine acall_dc n4 rfl (by assumption) (by simp) (fun r ya' ha' hQ hr => ?_); obtain ⟨y, y1, y2, rfl⟩ := hQ; clear hr) | (refine acall_dc n2 rfl (by assumption) (by simp) (fun r za' ha' hQ hr => ?_); obtain ⟨z, z1, z2, rfl⟩ := hQ; clear hr) | refine acall_pure (auth_i _ (by omega) (by omega)) (by simp) ?_ | skip) <;> ((repeat (refine Yz ?_)); (first | refine h9 _ _ (Ys ?_) | refine h9 _ _ (Yt ?_)); clear h9 K9))) | refine Y6 ?_ | refine Y7 ?_ | refine Y9 ?_ | ((first | refine Yk (m := 0) (by decide +kernel) [] (by kernel_rfl) (by decide +kernel) ?_); dsimp only [List.replicate, List.append_nil, List.cons_append, List.nil_append, List.length_cons, List.length_nil]) | (refine Yb rfl (fun hcnd => ?_) (fun hcnd => ?_) <;> (try simp at hcnd) <;> (try contradiction) <;> (try (exfalso; omega))) | refine Yc ?_ | (refine Ye ?_; refine Yf ?_) | refine Yg ?_ | (simp only [X0, X1, X2, X3, X4, X5, X6, Nat.reduceBEq]))
  refine hK _ _ ?_; clear hK K
  refine awp_seq fun K hK => ?_
  repeat' (first | ((first | refine Y0 rfl fun K9 h9 => ?_ | refine Y1 rfl rfl fun K9 h9 => ?_ | refine Y2 rfl rfl fun K9 h9 => ?_); simp (disch := (first | (simp; done) | omega | (simp; omega))); (try simp (disch := (first | omega | (simp; omega))) only [X7, X8, X9, Xa, Xb, Xc]); ((first | (refine acall_dc n5 rfl (by assumption) (by simp) (fun r xa' ha' hQ hr => ?_); obtain ⟨x, x1, x2, rfl⟩ := hQ; clear hr) | (refine acall_dc n4 rfl (by assumption) (by simp) (fun r ya' ha' hQ hr => ?_); obtain ⟨y, y1, y2, rfl⟩ := hQ; clear hr) | (refine acall_dc n2 rfl (by assumption) (by simp) (fun r za' ha' hQ hr => ?_); obtain ⟨z, z1, z2, rfl⟩ := hQ; clear hr) | refine acall_pure (auth_i _ (by omega) (by omega)) (by simp) ?_ | skip) <;> ((repeat (refine Yz ?_)); (first | refine h9 _ _ (Ys ?_) | refine h9 _ _ (Yt ?_)); clear h9 K9))) | refine Y6 ?_ | refine Y7 ?_ | refine Y9 ?_ | ((first | refine Yk (m := 0) (by decide +kernel) [] (by kernel_rfl) (by decide +kernel) ?_); dsimp only [List.replicate, List.append_nil, List.cons_append, List.nil_append, List.length_cons, List.length_nil]) | (refine Yb rfl (fun hcnd => ?_) (fun hcnd => ?_) <;> (try simp at hcnd) <;> (try contradiction) <;> (try (exfalso; omega))) | refine Yc ?_ | (refine Ye ?_; refine Yf ?_) | refine Yg ?_ | (simp only [X0, X1, X2, X3, X4, X5, X6, Nat.reduceBEq]))
  refine hK _ _ ?_; clear hK K
  refine awp_seqJ fun K1 hK1 hJ1 => ?_
  have main1 : ∀ (c : Ce) (b : Nat), WCs c → b ≤ l.length → K1 ([.ref 0 0, .junk, .ref 1 0, .ref 2 0, .ref 3 0, .junk, .junk, .junk, .junk, .junk, .junk, .junk, .junk, .junk, .junk, .junk, .junk, .junk, .junk, .junk, .junk, .junk, .junk, .junk, .junk, .junk, .junk, .junk, .junk]) [.live (dk l b), .live [.str [], .str [], .int .i64 0, .sl 0 [], .sl 0 [], .int .i64 0, .int .i64 0, .int .i64 0, .str [], .str [], .bool false, .bool false, .int .i64 0, .int .i64 0, .sl 0 [], .sl 0 [], .sl 0 [], .int .i64 0, .int .i64 0, .int .i64 0, .sl 0 [], .bool false, .sl 0 [], .sl 0 [], .str [], .str [], .sl 0 [], .sl 0 [], .sl 0 [], .str []], .live [.str [], .str [], .sl 0 [], .int .i64 0, .int .i64 0, .int .i64 0, .int .i64 0, .str [], .bool false, .sl 0 [], .bool false, .bool false, .int .i64 0, .bool false, .sl 0 [], .sl 0 [], .str []], .live [.str c.raw, .str c.tbs, .int .i64 c.serial, nmV c.issuer, nmV c.subject, .int .i64 c.nb, .int .i64 c.na, .int .i64 c.key.h, .str c.key.id, .str c.key.root, .bool c.info.basic, .bool c.info.ca, .int .i64 c.info.plen, .int .i64 c.info.usage, strV c.info.purposes, strV c.info.policies, mpsV c.info.maps, .int .i64 c.info.rexp, .int .i64 c.info.imap, .int .i64 c.info.iany, gnsV c.info.names, .bool c.info.hasC, gnsV c.info.cons.p, gnsV c.info.cons.x, .str c.info.sk, .str c.info.ak, ptsV c.info.points, ptsV c.info.fresh, exsV c.info.unk, .str c.sig]] := by
    intro c b hc hb
    refine hK1 _ _ ?_
    clear hK1 hJ1
    clear K1 n2 n3 n4 n5 hpt
    repeat' (first | ((first | refine Y0 rfl fun K9 h9 => ?_ | refine Y1 rfl rfl fun K9 h9 => ?_ | refine Y2 rfl rfl fun K9 h9 => ?_); simp (disch := (first | (simp; done) | omega | (simp; omega))); (try simp (disch := (first | omega | (simp; omega))) only [X7, X8, X9, Xa, Xb, Xc]); ((first | (refine acall_dc hls rfl (by assumption) (by simp) (fun r za' ha' hQ hr => ?_); obtain ⟨x, hx, rfl⟩ := hQ; clear hr; rw [Li.c.eq_1]) | skip) <;> ((repeat (refine Yz ?_)); (first | refine h9 _ _ (Ys ?_) | refine h9 _ _ (Yt ?_)); clear h9 K9))) | refine Y6 ?_ | refine Y7 ?_ | (first | (refine awp_region_any (by decide +kernel) ?_) | (refine aTree_end (by decide +kernel) ?_) | (refine aTree_one 0 _ (by decide +kernel) rfl ?_) | (refine aTree_one 1 _ (by decide +kernel) rfl ?_) | (refine aTree_one 2 _ (by decide +kernel) rfl ?_) | (refine aTree_one 3 _ (by decide +kernel) rfl ?_) | (refine aTree_one 4 _ (by decide +kernel) rfl ?_) | (refine aTree_two 0 1 _ _ (by decide +kernel) rfl rfl ?_ ?_) | (refine aTree_two 0 2 _ _ (by decide +kernel) rfl rfl ?_ ?_) | (refine aTree_two 0 3 _ _ (by decide +kernel) rfl rfl ?_ ?_) | (refine aTree_two 0 4 _ _ (by decide +kernel) rfl rfl ?_ ?_) | (refine aTree_two 1 2 _ _ (by decide +kernel) rfl rfl ?_ ?_) | (refine aTree_two 1 3 _ _ (by decide +kernel) rfl rfl ?_ ?_) | (refine aTree_two 1 4 _ _ (by decide +kernel) rfl rfl ?_ ?_) | (refine aTree_two 2 3 _ _ (by decide +kernel) rfl rfl ?_ ?_) | (refine aTree_two 2 4 _ _ (by decide +kernel) rfl rfl ?_ ?_) | (refine aTree_two 3 4 _ _ (by decide +kernel) rfl rfl ?_ ?_)) | (refine Y8 fun K hK => ?_) | refine Y9 ?_ | (apply hK; clear hK K) | ((first | refine Yk (m := 0) (by decide +kernel) [] (by kernel_rfl) (by decide +kernel) ?_); dsimp only [List.replicate, List.append_nil, List.cons_append, List.nil_append, List.length_cons, List.length_nil]) | (refine Yb rfl (fun hcnd => ?_) (fun hcnd => ?_) <;> (try simp at hcnd) <;> (try contradiction) <;> (try (exfalso; omega))) | refine Yc ?_ | (refine Ye ?_; refine Yf ?_) | refine Yg ?_ | (simp only [X0, X1, X2, X3, X4, X5, X6, Nat.reduceBEq]) | (clear hK K; first | (apply hK; clear hK K) | (clear hK K; first | (apply hK; clear hK K) | (clear hK K; first | (apply hK; clear hK K) | (clear hK K; apply hK; clear hK K)))))
    all_goals (
      refine ares_cell2 1 2 30 17 rfl rfl rfl (by simp; rfl) (by simp; rfl) (by simp) (by simp) (by kernel_rfl) (by kernel_rfl) (by kernel_rfl) (by kernel_rfl) (by simp) (by simp) ?_
      refine ⟨.tup [.agg [.str c.raw, .str c.tbs, .int .i64 c.serial, nmV c.issuer, nmV c.subject, .int .i64 c.nb, .int .i64 c.na, .int .i64 c.key.h, .str c.key.id, .str c.key.root, .bool c.info.basic, .bool c.info.ca, .int .i64 c.info.plen, .int .i64 c.info.usage, strV c.info.purposes, strV c.info.policies, mpsV c.info.maps, .int .i64 c.info.rexp, .int .i64 c.info.imap, .int .i64 c.info.iany, gnsV c.info.names, .bool c.info.hasC, gnsV c.info.cons.p, gnsV c.info.cons.x, .str c.info.sk, .str c.info.ak, ptsV c.info.points, ptsV c.info.fresh, exsV c.info.unk, .str c.sig], .agg [.str x.raw, .str x.tbs, nmV x.issuer, .int .i64 x.this, .int .i64 x.next, .int .i64 x.number, .int .i64 x.base, .str x.ak, .bool x.has, gnsV x.sc.names, .bool x.sc.ou, .bool x.sc.oc, .int .i64 x.sc.reasons, .bool x.sc.ind, ptsV x.fresh, ensV x.entries, .str x.sig]], [dk l za'], ⟨za', ha', ⟨c, x, hc, hx, rfl⟩, rfl⟩, by simp, rfl, by simp, ?_⟩
      exact Le.mk [some 0] (by simp [sget]) (rowsRen_of (by simp) (by simp [rowsOver, rowRen_live, rens_pures])) (by simp))
  clear hK1
  clear n2 n4 n5 hls
  refine awp_seq fun K hK => ?_
  repeat' (first | ((first | refine Y0 rfl fun K9 h9 => ?_ | refine Y1 rfl rfl fun K9 h9 => ?_ | refine Y2 rfl rfl fun K9 h9 => ?_); simp (disch := (first | (simp; done) | omega | (simp; omega))); (try simp (disch := (first | omega | (simp; omega))) only [X7, X8, X9, Xa, Xb, Xc]); ((first | (refine acall_dc n3 rfl (by assumption) (by simp) (fun r wa' ha' hQ hr => ?_); obtain ⟨w, w1, w2, rfl⟩ := hQ; clear hr) | skip) <;> ((repeat (refine Yz ?_)); (first | refine h9 _ _ (Ys ?_) | refine h9 _ _ (Yt ?_)); clear h9 K9))) | refine Y6 ?_ | refine Y7 ?_ | refine Y9 ?_ | ((first | refine Yk (m := 0) (by decide +kernel) [] (by kernel_rfl) (by decide +kernel) ?_); dsimp only [List.replicate, List.append_nil, List.cons_append, List.nil_append, List.length_cons, List.length_nil]) | (refine Yb rfl (fun hcnd => ?_) (fun hcnd => ?_) <;> (try simp at hcnd) <;> (try contradiction) <;> (try (exfalso; omega))) | refine Yc ?_ | (refine Ye ?_; refine Yf ?_) | refine Yg ?_ | (simp only [X0, X1, X2, X3, X4, X5, X6, Nat.reduceBEq]))
  refine hK _ _ ?_; clear hK K
  refine awp_cond rfl (fun hcnd => ?_) (fun hcnd => ?_)
  · repeat' (first | ((first | refine Y0 rfl fun K9 h9 => ?_ | refine Y1 rfl rfl fun K9 h9 => ?_ | refine Y2 rfl rfl fun K9 h9 => ?_); simp (disch := (first | (simp; done) | omega | (simp; omega))); (try simp (disch := (first | omega | (simp; omega))) only [X7, X8, X9, Xa, Xb, Xc]); ((first | (refine acall_dc hpt rfl (by assumption) (by simp) (fun r pa' ha' hQ hr => ?_); obtain ⟨ps, hp1, hp3, hpw, rfl⟩ := hQ; clear hr; rw [ptsV.eq_1]) | skip) <;> ((repeat (refine Yz ?_)); (first | refine h9 _ _ (Ys ?_) | refine h9 _ _ (Yt ?_)); clear h9 K9))) | refine Y6 ?_ | refine Y7 ?_ | (refine Y8 fun K hK => ?_) | refine Y9 ?_ | (apply hK; clear hK K) | ((first | refine Yk (m := 0) (by decide +kernel) [] (by kernel_rfl) (by decide +kernel) ?_); dsimp only [List.replicate, List.append_nil, List.cons_append, List.nil_append, List.length_cons, List.length_nil]) | (refine Yb rfl (fun hcnd => ?_) (fun hcnd => ?_) <;> (try simp at hcnd) <;> (try contradiction) <;> (try (exfalso; omega))) | refine Yc ?_ | (refine Ye ?_; refine Yf ?_) | refine Yg ?_ | (simp only [X0, X1, X2, X3, X4, X5, X6, Nat.reduceBEq]) | (clear hK K; first | (apply hK; clear hK K) | (clear hK K; first | (apply hK; clear hK K) | (clear hK K; first | (apply hK; clear hK K) | (clear hK K; apply hK; clear hK K)))))
    refine hJ1.nz (by simp only [List.map_cons, List.map_nil, nzRow, nz, dk_nz]; rfl) ?_
    refine hJ1.le _ _ _ _ ?_ (main1 { c0s (1 + x) (authN (y / 2 * 8).toNat) (z == 1) with info := { (c0s (1 + x) (authN (y / 2 * 8).toNat) (z == 1)).info with points := ps } } pa' ⟨authN_w _, hpw, by omega⟩ ha')
    exact Yr [some 0, some 1, some 2, some 3] (by simp [rowsOver, rowRen_live, rens_pures, gnsV, ptsV, exsV, mpsV, strV, nmV, c0s])
  · repeat' (first | ((first | refine Y0 rfl fun K9 h9 => ?_ | refine Y1 rfl rfl fun K9 h9 => ?_ | refine Y2 rfl rfl fun K9 h9 => ?_); simp (disch := (first | (simp; done) | omega | (simp; omega))); (try simp (disch := (first | omega | (simp; omega))) only [X7, X8, X9, Xa, Xb, Xc]); ((repeat (refine Yz ?_)); (first | refine h9 _ _ (Ys ?_) | refine h9 _ _ (Yt ?_)); clear h9 K9)) | refine Y6 ?_ | refine Y7 ?_ | (refine Y8 fun K hK => ?_) | refine Y9 ?_ | (apply hK; clear hK K) | ((first | refine Yk (m := 0) (by decide +kernel) [] (by kernel_rfl) (by decide +kernel) ?_); dsimp only [List.replicate, List.append_nil, List.cons_append, List.nil_append, List.length_cons, List.length_nil]) | (refine Yb rfl (fun hcnd => ?_) (fun hcnd => ?_) <;> (try simp at hcnd) <;> (try contradiction) <;> (try (exfalso; omega))) | refine Yc ?_ | (refine Ye ?_; refine Yf ?_) | refine Yg ?_ | (simp only [X0, X1, X2, X3, X4, X5, X6, Nat.reduceBEq]) | (clear hK K; first | (apply hK; clear hK K) | (clear hK K; first | (apply hK; clear hK K) | (clear hK K; first | (apply hK; clear hK K) | (clear hK K; apply hK; clear hK K)))))
    refine hJ1.nz (by simp only [List.map_cons, List.map_nil, nzRow, nz, dk_nz]; rfl) ?_
    refine hJ1.le _ _ _ _ ?_ (main1 (c0s (1 + x) (authN (y / 2 * 8).toNat) (z == 1)) wa' (c0s_w (authN_w _)) ha')
    exact Yr [some 0, some 1, some 2, some 3] (by simp [rowsOver, rowRen_live, rens_pures, gnsV, ptsV, exsV, mpsV, strV, nmV, c0s])
end Go.Proofs.YtbdfghlkkdkpgaaDoor

