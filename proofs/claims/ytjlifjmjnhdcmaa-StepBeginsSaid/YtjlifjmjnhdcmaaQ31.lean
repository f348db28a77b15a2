/-
  STEP: queries from a deck.
  Conditions: none.
-/
import Derived.Test.YtjlifjmjnhdcmaaQ29
set_option linter.all false
namespace Go.Stp
open Go.VS Go.Proofs.Ytjlifjmjnhdcmaa
/-- What is known of a query that was made. -/
structure WQu (q : Qu) : Prop where
  time : q.time = 2000
  pol : q.policies.length ≤ 3
  names : q.names.length ≤ 1 ∧ ∀ g ∈ q.names, WN g.name
  issuers : q.issuers.length ≤ 2 ∧ ∀ a ∈ q.issuers, ∃ k : Int, 0 ≤ k ∧ k < 8 ∧ a = anc k.toNat
  maxlen : 1 ≤ q.maxlen ∧ q.maxlen ≤ 4
end Go.Stp
namespace Go.Proofs.Ytjlifjmjnhdcmaa
open Go.VS Go.Stp
set_option linter.all false
set_option maxRecDepth 100000
set_option maxHeartbeats 16000000
theorem anchor_i (x : Int) (h0 : 0 ≤ x) (h : x < 8) : PCall Try.prog 9 [.int .i64 x] (.agg [nmV (anc x.toNat).n, .int .i64 (anc x.toNat).k.h, .str (anc x.toNat).k.id, .str (anc x.toNat).k.root]) := by
  have := anchor_call x.toNat (by omega)
  rwa [show ((x.toNat : Nat) : Int) = x by omega] at this
attribute [local irreducible] arun arunD arunU AWp aend
theorem query_dc {l : List Int} (h : DkOk l) : DC Try.prog 11 [] l fun r => ∃ q, WQu q ∧ r = .agg q.c := by
  intro a ha
  have n3 : DC Try.prog 10 [.int .i64 3] l (IntQ 3) := next_dc h 3 (by omega) (by omega)
  have n4 : DC Try.prog 10 [.int .i64 4] l (IntQ 4) := next_dc h 4 (by omega) (by omega)
  have n6 : DC Try.prog 10 [.int .i64 6] l (IntQ 6) := next_dc h 6 (by omega) (by omega)
  have n8 : DC Try.prog 10 [.int .i64 8] l (IntQ 8) := next_dc h 8 (by omega) (by omega)
  have pol := policies_dc h
  have gen := gen_dc' h
  refine eg_body Try.func11 rfl Try.call11 ?_
  refine awp_slots (s' := [(.ref 0 0 : V), .junk, .junk, .junk, .junk, .junk, .junk, .junk, .junk, .junk, .junk, .junk, .junk, .junk, .junk, .junk, .junk, .junk, .junk, .junk, .junk, .junk, .junk, .junk, .junk, .junk, .junk, .junk, .junk, .junk, .junk, .junk, .junk, .junk, .junk, .junk, .junk, .junk, .junk, .junk, .junk, .junk, .junk, .junk, .junk, .junk, .junk, .junk, .junk, .junk, .junk, .junk, .junk, .junk, .junk, .junk, .junk, .junk, .junk]) rfl ?_
  refine awp_rows (rows' := [.live (dk l a)]) rfl ?_
  iterate 5 (first | (refine Y0 rfl fun K9 h9 => ?_; simp (disch := (first | (simp; done) | omega | (simp; omega))); (try simp (disch := (first | omega | (simp; omega))) only [X7, X8, X9, Xa, Xb, Xc]); ((repeat (refine Yz ?_)); (first | refine h9 _ _ (Ys ?_)); clear h9 K9)) | refine Y6 ?_ | (refine Y8 fun K hK => ?_) | refine Y9 ?_ | (apply hK; clear hK K) | refine Ya ?_ | (refine Yb rfl (fun hcnd => ?_) (fun hcnd => ?_) <;> (try simp at hcnd) <;> (try contradiction) <;> (try (exfalso; omega))) | refine Yc ?_ | (refine Ye ?_; refine Yf ?_) | refine Yg ?_ | (simp only [X0, X1, X2, X3, X4, X5, X6, Nat.reduceBEq]) | (clear hK K; first | (apply hK; clear hK K) | (clear hK K; first | (apply hK; clear hK K) | (clear hK K; first | (apply hK; clear hK K) | (clear hK K; apply hK; clear hK K)))))
  refine awp_seqJ fun K1 hK1 hJ1 => ?_
  have main1 : ∀ (q : Qu) (b : Nat), WQu q → b ≤ l.length → K1 ([.ref 0 0, .junk, .ref 1 0, .ref 2 0, .junk, .junk, .junk, .junk, .junk, .junk, .junk, .junk, .junk, .junk, .junk, .junk, .junk, .junk, .junk, .junk, .junk, .junk, .junk, .junk, .junk, .junk, .junk, .junk, .junk, .junk, .junk, .junk, .junk, .junk, .junk, .junk, .junk, .junk, .junk, .junk, .junk, .junk, .junk, .junk, .junk, .junk, .junk, .junk, .junk, .junk, .junk, .junk, .junk, .junk, .junk, .junk, .junk, .junk, .junk]) [.live (dk l b), .live [.int .i64 0, .str [], .int .i64 0, .sl 0 [], .bool false, .bool false, .bool false, .sl 0 [], .int .i64 0, .bool false, .sl 0 []], .live q.c] := by
    intro q b w hb
    refine hK1 _ _ ?_
    clear hK1 hJ1
    clear K1
    refine awp_seqJ fun K2 hK2 hJ2 => ?_
    have main2 : ∀ (q : Qu) (b : Nat), WQu q → b ≤ l.length → K2 ([.ref 0 0, .junk, .ref 1 0, .ref 2 0, .junk, .junk, .junk, .junk, .junk, .junk, .junk, .junk, .junk, .junk, .junk, .junk, .junk, .junk, .junk, .junk, .junk, .junk, .junk, .junk, .junk, .junk, .junk, .junk, .junk, .junk, .junk, .junk, .junk, .junk, .junk, .junk, .junk, .junk, .junk, .junk, .junk, .junk, .junk, .junk, .junk, .junk, .junk, .junk, .junk, .junk, .junk, .junk, .junk, .junk, .junk, .junk, .junk, .junk, .junk]) [.live (dk l b), .live [.int .i64 0, .str [], .int .i64 0, .sl 0 [], .bool false, .bool false, .bool false, .sl 0 [], .int .i64 0, .bool false, .sl 0 []], .live q.c] := by
      intro q b w hb
      refine hK2 _ _ ?_
      clear hK2 hJ2
      clear K2
      refine awp_seqJ fun K3 hK3 hJ3 => ?_
      have main3 : ∀ (q : Qu) (b : Nat), WQu q → b ≤ l.length → K3 ([.ref 0 0, .junk, .ref 1 0, .ref 2 0, .junk, .junk, .junk, .junk, .junk, .junk, .junk, .junk, .junk, .junk, .junk, .junk, .junk, .junk, .junk, .junk, .junk, .junk, .junk, .junk, .junk, .junk, .junk, .junk, .junk, .junk, .junk, .junk, .junk, .junk, .junk, .junk, .junk, .junk, .junk, .junk, .junk, .junk, .junk, .junk, .junk, .junk, .junk, .junk, .junk, .junk, .junk, .junk, .junk, .junk, .junk, .junk, .junk, .junk, .junk]) [.live (dk l b), .live [.int .i64 0, .str [], .int .i64 0, .sl 0 [], .bool false, .bool false, .bool false, .sl 0 [], .int .i64 0, .bool false, .sl 0 []], .live q.c] := by
        intro q b w hb
        refine hK3 _ _ ?_
        clear hK3 hJ3
        clear K3
        have hp := Qu.c_pures q
        rw [Qu.c.eq_1 q]
        repeat' (first | (refine Y0 rfl fun K9 h9 => ?_; simp (disch := (first | (simp; done) | omega | (simp; omega))); (try simp (disch := (first | omega | (simp; omega))) only [X7, X8, X9, Xa, Xb, Xc]); ((repeat (refine Yz ?_)); (first | refine h9 _ _ (Ys ?_)); clear h9 K9)) | refine Y6 ?_ | (refine Y8 fun K hK => ?_) | refine Y9 ?_ | (apply hK; clear hK K) | refine Ya ?_ | (refine Yb rfl (fun hcnd => ?_) (fun hcnd => ?_) <;> (try simp at hcnd) <;> (try contradiction) <;> (try (exfalso; omega))) | refine Yc ?_ | (refine Ye ?_; refine Yf ?_) | refine Yg ?_ | (simp only [X0, X1, X2, X3, X4, X5, X6, Nat.reduceBEq]) | (clear hK K; first | (apply hK; clear hK K) | (clear hK K; first | (apply hK; clear hK K) | (clear hK K; first | (apply hK; clear hK K) | (clear hK K; apply hK; clear hK K)))))
        refine ares_cell 1 0 11 rfl rfl rfl (by simp) (by kernel_rfl) (by kernel_rfl) (by simp) ?_
        refine ⟨.agg q.c, [dk l b], ⟨b, hb, ⟨q, w, rfl⟩, rfl⟩, by simp, rfl, by simp, ?_⟩
        rw [Qu.c.eq_1 q]
        exact Le.mk [some 0] (by simp [sget]) (rowsRen_of (by simp) (by simp [rowsOver, rowRen_live, rens_pures])) (by simp)
      clear hK3
      rw [Qu.c.eq_1 q]
      repeat' (first | (refine Y0 rfl fun K9 h9 => ?_; simp (disch := (first | (simp; done) | omega | (simp; omega))); (try simp (disch := (first | omega | (simp; omega))) only [X7, X8, X9, Xa, Xb, Xc]); ((first | (refine acall_dc n8 rfl (by assumption) (by simp) (fun r a' ha' hQ hr => ?_); obtain ⟨x, hx1, hx2, rfl⟩ := hQ; clear hr; rcases (show x = 0 ∨ x = 1 ∨ x = 2 ∨ x = 3 ∨ x = 4 ∨ x = 5 ∨ x = 6 ∨ x = 7 by omega) with rfl | rfl | rfl | rfl | rfl | rfl | rfl | rfl) | skip) <;> ((repeat (refine Yz ?_)); (first | refine h9 _ _ (Ys ?_)); clear h9 K9))) | refine Y6 ?_ | (refine Y8 fun K hK => ?_) | refine Y9 ?_ | (apply hK; clear hK K) | refine Ya ?_ | (refine Yb rfl (fun hcnd => ?_) (fun hcnd => ?_) <;> (try simp at hcnd) <;> (try contradiction) <;> (try (exfalso; omega))) | refine Yc ?_ | (refine Ye ?_; refine Yf ?_) | refine Yg ?_ | (simp only [X0, X1, X2, X3, X4, X5, X6, Nat.reduceBEq]) | (clear hK K; first | (apply hK; clear hK K) | (clear hK K; first | (apply hK; clear hK K) | (clear hK K; first | (apply hK; clear hK K) | (clear hK K; apply hK; clear hK K)))))
      · refine hJ3.le _ _ _ _ ?_ (main3 q a' w (by assumption))
        exact Yr [some 0, some 1, some 2] (by simp [rowsOver, rowRen_live, rens_pures, Qu.c])
      · refine hJ3.le _ _ _ _ ?_ (main3 { q with purpose := [49, 46, 51, 46, 54, 46, 49, 46, 53, 46, 53, 46, 55, 46, 51, 46, 49] } a' ⟨w.time, w.pol, w.names, w.issuers, w.maxlen⟩ (by assumption))
        exact Yr [some 0, some 1, some 2] (by simp [rowsOver, rowRen_live, rens_pures, Qu.c])
      · refine hJ3.le _ _ _ _ ?_ (main3 { q with usage := 1 } a' ⟨w.time, w.pol, w.names, w.issuers, w.maxlen⟩ (by assumption))
        exact Yr [some 0, some 1, some 2] (by simp [rowsOver, rowRen_live, rens_pures, Qu.c])
      · repeat' (first | (refine Y0 rfl fun K9 h9 => ?_; simp (disch := (first | (simp; done) | omega | (simp; omega))); (try simp (disch := (first | omega | (simp; omega))) only [X7, X8, X9, Xa, Xb, Xc]); ((first | (refine acall_dc gen rfl (by assumption) (by simp) (fun r a' ha' hQ hr => ?_); obtain ⟨g, hg, rfl⟩ := hQ; clear hr) | skip) <;> ((repeat (refine Yz ?_)); (first | refine h9 _ _ (Ys ?_)); clear h9 K9))) | refine Y6 ?_ | (refine Y8 fun K hK => ?_) | refine Y9 ?_ | (apply hK; clear hK K) | refine Ya ?_ | (refine Yb rfl (fun hcnd => ?_) (fun hcnd => ?_) <;> (try simp at hcnd) <;> (try contradiction) <;> (try (exfalso; omega))) | refine Yc ?_ | (refine Ye ?_; refine Yf ?_) | refine Yg ?_ | (simp only [X0, X1, X2, X3, X4, X5, X6, Nat.reduceBEq]) | (clear hK K; first | (apply hK; clear hK K) | (clear hK K; first | (apply hK; clear hK K) | (clear hK K; first | (apply hK; clear hK K) | (clear hK K; apply hK; clear hK K)))))
        refine hJ3.fz 3 rfl (by simp) (by simp; rfl) (by simp [fzRow, fz_map (dk_pures _ _)]; rfl) ?_
        refine hJ3.le _ _ _ _ ?_ (main3 { q with names := [g] } a' ⟨w.time, w.pol, ⟨by simp, by simp [hg]⟩, w.issuers, w.maxlen⟩ (by assumption))
        exact Yr [some 0, some 1, some 2] (by simp [rowsOver, rowRen_live, rens_pures, Qu.c, gnsV, Gn.c])
      · repeat' (first | (refine Y0 rfl fun K9 h9 => ?_; simp (disch := (first | (simp; done) | omega | (simp; omega))); (try simp (disch := (first | omega | (simp; omega))) only [X7, X8, X9, Xa, Xb, Xc]); ((first | (refine acall_dc n4 rfl (by assumption) (by simp) (fun r a' ha' hQ hr => ?_); obtain ⟨x, hx1, hx2, rfl⟩ := hQ; clear hr) | refine acall_pure (anchor_i _ (by omega) (by omega)) (by simp) ?_ | skip) <;> ((repeat (refine Yz ?_)); (first | refine h9 _ _ (Ys ?_)); clear h9 K9))) | refine Y6 ?_ | (refine Y8 fun K hK => ?_) | refine Y9 ?_ | (apply hK; clear hK K) | refine Ya ?_ | (refine Yb rfl (fun hcnd => ?_) (fun hcnd => ?_) <;> (try simp at hcnd) <;> (try contradiction) <;> (try (exfalso; omega))) | refine Yc ?_ | (refine Ye ?_; refine Yf ?_) | refine Yg ?_ | (simp only [X0, X1, X2, X3, X4, X5, X6, Nat.reduceBEq]) | (clear hK K; first | (apply hK; clear hK K) | (clear hK K; first | (apply hK; clear hK K) | (clear hK K; first | (apply hK; clear hK K) | (clear hK K; apply hK; clear hK K)))))
        refine hJ3.fz 3 rfl (by simp) (by simp; rfl) (by simp [fzRow, fz_map (dk_pures _ _)]; rfl) ?_
        refine hJ3.le _ _ _ _ ?_ (main3 { q with issuers := [anc x.toNat] } a' ⟨w.time, w.pol, w.names, ⟨by simp, fun a ha => ⟨x, by omega, by omega, by simpa using ha⟩⟩, w.maxlen⟩ (by assumption))
        exact Yr [some 0, some 1, some 2] (by simp [rowsOver, rowRen_live, rens_pures, Qu.c, ansV, An.c])
      · repeat' (first | (refine Y0 rfl fun K9 h9 => ?_; simp (disch := (first | (simp; done) | omega | (simp; omega))); (try simp (disch := (first | omega | (simp; omega))) only [X7, X8, X9, Xa, Xb, Xc]); ((first | (refine acall_dc n4 rfl (by assumption) (by simp) (fun r a' ha' hQ hr => ?_); obtain ⟨x, hx1, hx2, rfl⟩ := hQ; clear hr) | refine acall_pure (anchor_i _ (by omega) (by omega)) (by simp) ?_ | skip) <;> ((repeat (refine Yz ?_)); (first | refine h9 _ _ (Ys ?_)); clear h9 K9))) | refine Y6 ?_ | (refine Y8 fun K hK => ?_) | refine Y9 ?_ | (apply hK; clear hK K) | refine Ya ?_ | (refine Yb rfl (fun hcnd => ?_) (fun hcnd => ?_) <;> (try simp at hcnd) <;> (try contradiction) <;> (try (exfalso; omega))) | refine Yc ?_ | (refine Ye ?_; refine Yf ?_) | refine Yg ?_ | (simp only [X0, X1, X2, X3, X4, X5, X6, Nat.reduceBEq]) | (clear hK K; first | (apply hK; clear hK K) | (clear hK K; first | (apply hK; clear hK K) | (clear hK K; first | (apply hK; clear hK K) | (clear hK K; apply hK; clear hK K)))))
        rename_i _ _ y hy1 hy2
        refine hJ3.fz 3 rfl (by simp) (by simp; rfl) (by simp [fzRow, fz_map (dk_pures _ _)]; rfl) ?_
        refine hJ3.le _ _ _ _ ?_ (main3 { q with issuers := [anc y.toNat, anc x.toNat] } a' ⟨w.time, w.pol, w.names, ⟨by simp, fun a ha => by simp at ha; rcases ha with rfl | rfl; exact ⟨y, by omega, by omega, rfl⟩; exact ⟨x, by omega, by omega, rfl⟩⟩, w.maxlen⟩ (by assumption))
        exact Yr [some 0, some 1, some 2] (by simp [rowsOver, rowRen_live, rens_pures, Qu.c, ansV, An.c])
      · refine hJ3.le _ _ _ _ ?_ (main3 q a' w (by assumption))
        exact Yr [some 0, some 1, some 2] (by simp [rowsOver, rowRen_live, rens_pures, Qu.c])
      · refine hJ3.le _ _ _ _ ?_ (main3 q a' w (by assumption))
        exact Yr [some 0, some 1, some 2] (by simp [rowsOver, rowRen_live, rens_pures, Qu.c])
    clear hK2
    rw [Qu.c.eq_1 q]
    repeat' (first | (refine Y0 rfl fun K9 h9 => ?_; simp (disch := (first | (simp; done) | omega | (simp; omega))); (try simp (disch := (first | omega | (simp; omega))) only [X7, X8, X9, Xa, Xb, Xc]); ((first | (refine acall_dc n4 rfl (by assumption) (by simp) (fun r a' ha' hQ hr => ?_); obtain ⟨x, hx1, hx2, rfl⟩ := hQ; clear hr) | (refine acall_dc pol rfl (by assumption) (by simp) (fun r a' ha' hQ hr => ?_); obtain ⟨ps, hp1, hp2, rfl⟩ := hQ; clear hr) | (refine acall_eg [] (once_call _ (by omega) hp2) (by simp) (by simp [rowsOver]) (by simp) rfl (fun r rows' hR hr hl hps => ?_); obtain ⟨qs, hq1, hq2, rfl⟩ := hR; clear hr hps; obtain rfl := List.eq_nil_of_length_eq_zero hl; have hqV : strV qs = .sl qs.length (qs.map V.str) := rfl; rw [hqV]) | skip) <;> ((repeat (refine Yz ?_)); (first | refine h9 _ _ (Ys ?_)); clear h9 K9))) | refine Y6 ?_ | (refine Y8 fun K hK => ?_) | refine Y9 ?_ | (apply hK; clear hK K) | refine Ya ?_ | (refine Yb rfl (fun hcnd => ?_) (fun hcnd => ?_) <;> (try simp at hcnd) <;> (try contradiction) <;> (try (exfalso; omega))) | refine Yc ?_ | (refine Ye ?_; refine Yf ?_) | refine Yg ?_ | (simp only [X0, X1, X2, X3, X4, X5, X6, Nat.reduceBEq]) | (clear hK K; first | (apply hK; clear hK K) | (clear hK K; first | (apply hK; clear hK K) | (clear hK K; first | (apply hK; clear hK K) | (clear hK K; apply hK; clear hK K)))))
    · refine hJ2.le _ _ _ _ ?_ (main2 { q with policies := qs } a' ⟨w.time, by dsimp only; omega, w.names, w.issuers, w.maxlen⟩ (by assumption))
      exact Yr [some 0, some 1, some 2] (by simp [rowsOver, rowRen_live, rens_pures, Qu.c, strV])
    · refine hJ2.le _ _ _ _ ?_ (main2 q a' w (by assumption))
      exact Yr [some 0, some 1, some 2] (by simp [rowsOver, rowRen_live, rens_pures, Qu.c])
  clear hK1
  repeat' (first | (refine Y0 rfl fun K9 h9 => ?_; simp (disch := (first | (simp; done) | omega | (simp; omega))); (try simp (disch := (first | omega | (simp; omega))) only [X7, X8, X9, Xa, Xb, Xc]); ((first | (refine acall_dc n4 rfl (by assumption) (by simp) (fun r a' ha' hQ hr => ?_); obtain ⟨x, hx1, hx2, rfl⟩ := hQ; clear hr) | (refine acall_dc n6 rfl (by assumption) (by simp) (fun r a' ha' hQ hr => ?_); obtain ⟨x, hx1, hx2, rfl⟩ := hQ; clear hr) | (refine acall_dc n3 rfl (by assumption) (by simp) (fun r a' ha' hQ hr => ?_); obtain ⟨x, hx1, hx2, rfl⟩ := hQ; clear hr) | skip) <;> ((repeat (refine Yz ?_)); (first | refine h9 _ _ (Ys ?_)); clear h9 K9))) | refine Y6 ?_ | (refine Y8 fun K hK => ?_) | refine Y9 ?_ | (apply hK; clear hK K) | refine Ya ?_ | (refine Yb rfl (fun hcnd => ?_) (fun hcnd => ?_) <;> (try simp at hcnd) <;> (try contradiction) <;> (try (exfalso; omega))) | refine Yc ?_ | (refine Ye ?_; refine Yf ?_) | refine Yg ?_ | (simp only [X0, X1, X2, X3, X4, X5, X6, Nat.reduceBEq]) | (clear hK K; first | (apply hK; clear hK K) | (clear hK K; first | (apply hK; clear hK K) | (clear hK K; first | (apply hK; clear hK K) | (clear hK K; apply hK; clear hK K)))))
  rename_i _ _ m hm1 hm2 _ _ e1 _ _ _ _ e2 _ _ _ _ e3 _ _
  refine hJ1.nz (rows' := [.live (dk l a'), .live [.int .i64 0, .str [], .int .i64 0, .sl 0 [], .bool false, .bool false, .bool false, .sl 0 [], .int .i64 0, .bool false, .sl 0 []], .live [.int .i64 2000, .str [], .int .i64 0, .sl 0 [], .bool (e1 == 1), .bool (e2 == 1), .bool (e3 == 1), .sl 0 [], .int .i64 (1 + m), .bool (x == 1), .sl 0 []]]) (by simp [nzRow, nz, dk_nz]) ?_
  refine hJ1.le _ _ _ _ ?_ (main1 ⟨2000, [], 0, [], e1 == 1, e2 == 1, e3 == 1, [], 1 + m, x == 1, []⟩ a' ⟨rfl, by simp, by simp, by simp, by dsimp only; omega⟩ ha')
  exact Yr [some 0, some 1, some 2] (by simp [rowsOver, rowRen_live, rens_pures, Qu.c, strV, gnsV, ansV])
end Go.Proofs.Ytjlifjmjnhdcmaa
