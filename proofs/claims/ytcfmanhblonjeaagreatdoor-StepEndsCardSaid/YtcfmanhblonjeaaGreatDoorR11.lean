/-
  STEP: queries from a deck, with their names as a row.
  Conditions: none.
-/
import Derived.Test.YtcfmanhblonjeaaGreatDoorGe
import Derived.Test.YtcfmanhblonjeaaGreatDoorGf
import Derived.Test.YtcfmanhblonjeaaGreatDoorGg
import Derived.Test.YtcfmanhblonjeaaGreatDoorGh
import Derived.Test.YtcfmanhblonjeaaGreatDoorGj
import Derived.Test.YtcfmanhblonjeaaGreatDoorGl
import Derived.Test.YtcfmanhblonjeaaGreatDoorGk
import Derived.Test.YtcfmanhblonjeaaGreatDoorQ16
import Derived.Test.YtcfmanhblonjeaaGreatDoorQ17
import Derived.Test.YtcfmanhblonjeaaGreatDoorQ18
import Derived.Test.YtcfmanhblonjeaaGreatDoorQ19
import Derived.Test.YtcfmanhblonjeaaGreatDoorQ25
import Derived.Test.YtcfmanhblonjeaaGreatDoorQ26
import Derived.Test.YtcfmanhblonjeaaGreatDoorQ27
import Derived.Test.YtcfmanhblonjeaaGreatDoorQ28
import Derived.Test.YtcfmanhblonjeaaGreatDoorQ29
import Derived.Test.YtcfmanhblonjeaaGreatDoorQ31
import Derived.Test.YtcfmanhblonjeaaGreatDoorTab
import Derived.Test.YtcfmanhblonjeaaGreatDoorGd
import Derived.Test.YtcfmanhblonjeaaGreatDoorGi
import Derived.Test.YtcfmanhblonjeaaGreatDoorVs33
import Derived.Test.YtcfmanhblonjeaaGreatDoorVs34
import Derived.Test.YtcfmanhblonjeaaGreatDoorVs35
import Derived.Test.YtcfmanhblonjeaaGreatDoorVs36
import Derived.Test.YtcfmanhblonjeaaGreatDoorVs39
set_option linter.all false
namespace Go.Stp
open Go.VS
def QR (q : Qu) (i : Nat) : List V := [.int .i64 q.time, .str q.purpose, .int .i64 q.usage, strV q.policies, .bool q.expl, .bool q.nomap, .bool q.noany, .osl i 0 q.names.length 3, .int .i64 q.maxlen, .bool q.status, ansV q.issuers]
theorem ren_aggs {ex : Bool} {m : List (Option Nat)} {c d : List V} (h : Rens ex m c d) : Ren ex m (.agg c) (.agg d) := .agg h.get.1 h.get.2
theorem qr_ren {ex : Bool} {m : List (Option Nat)} {i j : Nat} (q : Qu) (h : m[i]? = some (some j)) : Ren ex m (.agg (QR q i)) (.agg (QR q j)) :=
  ren_aggs ⟨.pure .int, .pure .str, .pure .int, .pure .sl, .pure .bool, .pure .bool, .pure .bool, .osl h, .pure .int, .pure .bool, .pure .sl, trivial⟩
end Go.Stp
namespace Go.Proofs.YtcfmanhblonjeaaGreatDoor
open Go.VS Go.Stp
set_option linter.all false
set_option maxRecDepth 100000
set_option maxHeartbeats 16000000
attribute [local irreducible] arun arunD arunU AWp aend
theorem query_en {l : List Int} (h : DkOk l) (a : Nat) (ha : a ≤ l.length) : EN Tryz.prog 9 [.ref 0 0] [dk l a] fun r rows' new => ∃ (q : Qu) (a' : Nat), WQu q ∧ a' ≤ l.length ∧ r = .agg (QR q 1) ∧ rows' = [dk l a'] ∧ new = q.names.flatMap Gn.c := by
  have n3 : DC Tryz.prog 7 [.int .i64 3] l (IntQ 3) := next_dc h 3 (by omega) (by omega)
  have n4 : DC Tryz.prog 7 [.int .i64 4] l (IntQ 4) := next_dc h 4 (by omega) (by omega)
  have n6 : DC Tryz.prog 7 [.int .i64 6] l (IntQ 6) := next_dc h 6 (by omega) (by omega)
  have n8 : DC Tryz.prog 7 [.int .i64 8] l (IntQ 8) := next_dc h 8 (by omega) (by omega)
  have pol := policies_dc h
  have gen := gen_dc' h
  refine en_body Tryz.func9 rfl Tryz.call9 ?_
  refine awp_slots (s' := (.ref 0 0 : V) :: zJ 58) rfl ?_; dsimp only [zJ]
  refine awp_rows (rows' := [.live (dk l a)]) rfl ?_
  iterate 5 (first | (refine Y0 rfl fun K9 h9 => ?_; simp (disch := first | exact dd | fail); (try simp (disch := first | exact de | fail) only [X7]); ((repeat (refine Yz ?_)); (first | refine h9 _ _ (Ys ?_)); clear h9 K9)) | refine Y6 ?_ | (refine Y8 fun K hK => ?_) | refine Y9 ?_ | (apply hK; clear hK K) | refine Ya ?_ | (refine Yb rfl ?_ ?_ <;> intro hcnd <;> (try simp at hcnd) <;> try exact dc) | refine Yc ?_ | (refine Ye ?_; refine Yf ?_) | refine Yg ?_ | (simp only [X0, Nat.reduceBEq]) | (clear hK K; first | (apply hK; clear hK K) | (clear hK K; first | (apply hK; clear hK K) | (clear hK K; first | (apply hK; clear hK K) | (clear hK K; apply hK; clear hK K)))))
  refine awp_seqJ fun K1 hK1 hJ1 => ?_
  have main1 : ∀ (q : Qu) (b : Nat), WQu q → b ≤ l.length → K1 ([.ref 0 0, .junk, .ref 1 0, .ref 2 0, .junk, .junk, .junk, .junk, .junk, .junk, .junk, .junk, .junk, .junk, .junk, .junk, .junk, .junk, .junk, .junk, .junk, .junk, .junk, .junk, .junk, .junk, .junk, .junk, .junk, .junk, .junk, .junk, .junk, .junk, .junk, .junk, .junk, .junk, .junk, .junk, .junk, .junk, .junk, .junk, .junk, .junk, .junk, .junk, .junk, .junk, .junk, .junk, .junk, .junk, .junk, .junk, .junk, .junk, .junk]) [.live (dk l b), .live [.int .i64 0, .str [], .int .i64 0, .sl 0 [], .bool false, .bool false, .bool false, .sl 0 [], .int .i64 0, .bool false, .sl 0 []], .live (QR q 3), .live (q.names.flatMap Gn.c)] := by
    intro q b w hb
    refine hK1 _ _ ?_
    clear hK1 hJ1
    clear K1
    refine awp_seqJ fun K2 hK2 hJ2 => ?_
    have main2 : ∀ (q : Qu) (b : Nat), WQu q → b ≤ l.length → K2 ([.ref 0 0, .junk, .ref 1 0, .ref 2 0, .junk, .junk, .junk, .junk, .junk, .junk, .junk, .junk, .junk, .junk, .junk, .junk, .junk, .junk, .junk, .junk, .junk, .junk, .junk, .junk, .junk, .junk, .junk, .junk, .junk, .junk, .junk, .junk, .junk, .junk, .junk, .junk, .junk, .junk, .junk, .junk, .junk, .junk, .junk, .junk, .junk, .junk, .junk, .junk, .junk, .junk, .junk, .junk, .junk, .junk, .junk, .junk, .junk, .junk, .junk]) [.live (dk l b), .live [.int .i64 0, .str [], .int .i64 0, .sl 0 [], .bool false, .bool false, .bool false, .sl 0 [], .int .i64 0, .bool false, .sl 0 []], .live (QR q 3), .live (q.names.flatMap Gn.c)] := by
      intro q b w hb
      refine hK2 _ _ ?_
      clear hK2 hJ2
      clear K2
      refine awp_seqJ fun K3 hK3 hJ3 => ?_
      have main3 : ∀ (q : Qu) (b : Nat), WQu q → b ≤ l.length → K3 ([.ref 0 0, .junk, .ref 1 0, .ref 2 0, .junk, .junk, .junk, .junk, .junk, .junk, .junk, .junk, .junk, .junk, .junk, .junk, .junk, .junk, .junk, .junk, .junk, .junk, .junk, .junk, .junk, .junk, .junk, .junk, .junk, .junk, .junk, .junk, .junk, .junk, .junk, .junk, .junk, .junk, .junk, .junk, .junk, .junk, .junk, .junk, .junk, .junk, .junk, .junk, .junk, .junk, .junk, .junk, .junk, .junk, .junk, .junk, .junk, .junk, .junk]) [.live (dk l b), .live [.int .i64 0, .str [], .int .i64 0, .sl 0 [], .bool false, .bool false, .bool false, .sl 0 [], .int .i64 0, .bool false, .sl 0 []], .live (QR q 3), .live (q.names.flatMap Gn.c)] := by
        intro q b w hb
        refine hK3 _ _ ?_
        clear hK3 hJ3
        clear K3
        have hgp := gns_pures q.names
        have e := QR.eq_1 q 3
        rw [e]
        repeat' (first | (refine Y0 rfl fun K9 h9 => ?_; simp (disch := first | exact dd | fail); (try simp (disch := first | exact de | fail) only [X7]); ((repeat (refine Yz ?_)); (first | refine h9 _ _ (Ys ?_)); clear h9 K9)) | refine Y6 ?_ | (refine Y8 fun K hK => ?_) | refine Y9 ?_ | (apply hK; clear hK K) | refine Ya ?_ | (refine Yb rfl ?_ ?_ <;> intro hcnd <;> (try simp at hcnd) <;> try exact dc) | refine Yc ?_ | (refine Ye ?_; refine Yf ?_) | refine Yg ?_ | (simp only [X0, Nat.reduceBEq]) | clear hK K)
        refine ares_cell 1 0 11 rfl rfl rfl (by simp) (by kernel_rfl) (by kernel_rfl) (by simp) ?_
        refine ⟨.agg (QR q 1), [dk l b], q.names.flatMap Gn.c, ⟨q, b, w, hb, rfl, rfl, rfl⟩, rfl, by simp, hgp, ?_⟩
        exact Le.mk [some 0, some 3] (by simp [sget]; exact qr_ren (i := 1) (j := 3) q rfl) (rowsRen_of (by simp) (by simp [rowsOver, rowRen_live, rens_pures, rens_pures hgp])) (by simp)
      clear hK3
      have hgp := gns_pures q.names
      have e := QR.eq_1 q 3
      rw [e]
      repeat' (first | (refine Y0 rfl fun K9 h9 => ?_; simp (disch := first | exact dd | fail); (try simp (disch := first | exact de | fail) only [X7]); ((first | (refine acall_dc n8 rfl (by assumption) (by simp) (fun r a' ha' hQ hr => ?_); obtain ⟨x, hx1, hx2, rfl⟩ := hQ; clear hr; rcases (show x = 0 ∨ x = 1 ∨ x = 2 ∨ x = 3 ∨ x = 4 ∨ x = 5 ∨ x = 6 ∨ x = 7 by omega) with rfl | rfl | rfl | rfl | rfl | rfl | rfl | rfl) | skip) <;> ((repeat (refine Yz ?_)); (first | refine h9 _ _ (Ys ?_)); clear h9 K9))) | refine Y6 ?_ | (refine Y8 fun K hK => ?_) | refine Y9 ?_ | (apply hK; clear hK K) | refine Ya ?_ | (refine Yb rfl ?_ ?_ <;> intro hcnd <;> (try simp at hcnd) <;> try exact dc) | refine Yc ?_ | (refine Ye ?_; refine Yf ?_) | refine Yg ?_ | (simp only [X0, Nat.reduceBEq]) | clear hK K)
      · refine hJ3.le _ _ _ _ ?_ (main3 q a' w (by assumption))
        exact Yr [some 0, some 1, some 2, some 3] (by simp [rowsOver, rowRen_live, rens_pures, rens_pures hgp, QR])
      · refine hJ3.le _ _ _ _ ?_ (main3 { q with purpose := [49, 46, 51, 46, 54, 46, 49, 46, 53, 46, 53, 46, 55, 46, 51, 46, 49] } a' ⟨w.time, w.pol, w.names, w.issuers, w.maxlen⟩ (by assumption))
        exact Yr [some 0, some 1, some 2, some 3] (by simp [rowsOver, rowRen_live, rens_pures, rens_pures hgp, QR])
      · refine hJ3.le _ _ _ _ ?_ (main3 { q with usage := 1 } a' ⟨w.time, w.pol, w.names, w.issuers, w.maxlen⟩ (by assumption))
        exact Yr [some 0, some 1, some 2, some 3] (by simp [rowsOver, rowRen_live, rens_pures, rens_pures hgp, QR])
      · repeat' (first | (refine Y0 rfl fun K9 h9 => ?_; simp (disch := first | exact dd | fail); (try simp (disch := first | exact de | fail) only [X7]); ((first | (refine acall_dc gen rfl (by assumption) (by simp) (fun r a' ha' hQ hr => ?_); obtain ⟨g, hg, rfl⟩ := hQ; clear hr) | skip) <;> ((repeat (refine Yz ?_)); (first | refine h9 _ _ (Ys ?_)); clear h9 K9))) | refine Y6 ?_ | (refine Y8 fun K hK => ?_) | refine Y9 ?_ | (apply hK; clear hK K) | refine Ya ?_ | (refine Yb rfl ?_ ?_ <;> intro hcnd <;> (try simp at hcnd) <;> try exact dc) | refine Yc ?_ | (refine Ye ?_; refine Yf ?_) | refine Yg ?_ | (simp only [X0, Nat.reduceBEq]) | clear hK K)
        refine hJ3.le _ _ _ _ ?_ (main3 { q with names := [g] } a' ⟨w.time, w.pol, ⟨by simp, by simp [hg]⟩, w.issuers, w.maxlen⟩ (by assumption))
        exact Yr [some 0, some 1, some 2, some 4] (by simp [rowsOver, rowRen_live, rens_pures, rens_pures hgp, QR, Gn.c])
      · repeat' (first | (refine Y0 rfl fun K9 h9 => ?_; simp (disch := first | exact dd | fail); (try simp (disch := first | exact de | fail) only [X7]); ((first | (refine acall_dc n4 rfl (by assumption) (by simp) (fun r a' ha' hQ hr => ?_); obtain ⟨x, hx1, hx2, rfl⟩ := hQ; clear hr) | refine Ap (anchor_i _ (by omega) (by omega)) ?_ | skip) <;> ((repeat (refine Yz ?_)); (first | refine h9 _ _ (Ys ?_)); clear h9 K9))) | refine Y6 ?_ | (refine Y8 fun K hK => ?_) | refine Y9 ?_ | (apply hK; clear hK K) | refine Ya ?_ | (refine Yb rfl ?_ ?_ <;> intro hcnd <;> (try simp at hcnd) <;> try exact dc) | refine Yc ?_ | (refine Ye ?_; refine Yf ?_) | refine Yg ?_ | (simp only [X0, Nat.reduceBEq]) | clear hK K)
        refine hJ3.fz 4 rfl (by simp) (by simp; rfl) (by simp [fzRow, fz_map (dk_pures _ _), fz_map hgp]; rfl) ?_
        refine hJ3.le _ _ _ _ ?_ (main3 { q with issuers := [anc x.toNat] } a' ⟨w.time, w.pol, w.names, ⟨by simp, fun a ha => ⟨x, by omega, by omega, by simpa using ha⟩⟩, w.maxlen⟩ (by assumption))
        exact Yr [some 0, some 1, some 2, some 3] (by simp [rowsOver, rowRen_live, rens_pures, rens_pures hgp, QR, ansV, An.c])
      · repeat' (first | (refine Y0 rfl fun K9 h9 => ?_; simp (disch := first | exact dd | fail); (try simp (disch := first | exact de | fail) only [X7]); ((first | (refine acall_dc n4 rfl (by assumption) (by simp) (fun r a' ha' hQ hr => ?_); obtain ⟨x, hx1, hx2, rfl⟩ := hQ; clear hr) | refine Ap (anchor_i _ (by omega) (by omega)) ?_ | skip) <;> ((repeat (refine Yz ?_)); (first | refine h9 _ _ (Ys ?_)); clear h9 K9))) | refine Y6 ?_ | (refine Y8 fun K hK => ?_) | refine Y9 ?_ | (apply hK; clear hK K) | refine Ya ?_ | (refine Yb rfl ?_ ?_ <;> intro hcnd <;> (try simp at hcnd) <;> try exact dc) | refine Yc ?_ | (refine Ye ?_; refine Yf ?_) | refine Yg ?_ | (simp only [X0, Nat.reduceBEq]) | clear hK K)
        rename_i _ _ y hy1 hy2
        refine hJ3.fz 4 rfl (by simp) (by simp; rfl) (by simp [fzRow, fz_map (dk_pures _ _), fz_map hgp]; rfl) ?_
        refine hJ3.le _ _ _ _ ?_ (main3 { q with issuers := [anc y.toNat, anc x.toNat] } a' ⟨w.time, w.pol, w.names, ⟨by simp, fun a ha => by simp at ha; rcases ha with rfl | rfl; exact ⟨y, by omega, by omega, rfl⟩; exact ⟨x, by omega, by omega, rfl⟩⟩, w.maxlen⟩ (by assumption))
        exact Yr [some 0, some 1, some 2, some 3] (by simp [rowsOver, rowRen_live, rens_pures, rens_pures hgp, QR, ansV, An.c])
      · refine hJ3.le _ _ _ _ ?_ (main3 q a' w (by assumption))
        exact Yr [some 0, some 1, some 2, some 3] (by simp [rowsOver, rowRen_live, rens_pures, rens_pures hgp, QR])
      · refine hJ3.le _ _ _ _ ?_ (main3 q a' w (by assumption))
        exact Yr [some 0, some 1, some 2, some 3] (by simp [rowsOver, rowRen_live, rens_pures, rens_pures hgp, QR])
    clear hK2
    have hgp := gns_pures q.names
    have e := QR.eq_1 q 3
    rw [e]
    repeat' (first | (refine Y0 rfl fun K9 h9 => ?_; simp (disch := first | exact dd | fail); (try simp (disch := first | exact de | fail) only [X7]); ((first | (refine acall_dc n4 rfl (by assumption) (by simp) (fun r a' ha' hQ hr => ?_); obtain ⟨x, hx1, hx2, rfl⟩ := hQ; clear hr) | (refine acall_dc pol rfl (by assumption) (by simp) (fun r a' ha' hQ hr => ?_); obtain ⟨ps, hp1, hp2, rfl⟩ := hQ; clear hr) | (refine acall_eg [] (once_call _ (by omega) hp2) (by simp) (by simp [rowsOver]) (by simp) rfl (fun r rows' hR hr hl hps => ?_); obtain ⟨qs, hq1, hq2, rfl⟩ := hR; clear hr hps; obtain rfl := List.eq_nil_of_length_eq_zero hl; have hqV : strV qs = .sl qs.length (qs.map V.str) := rfl; rw [hqV]) | skip) <;> ((repeat (refine Yz ?_)); (first | refine h9 _ _ (Ys ?_)); clear h9 K9))) | refine Y6 ?_ | (refine Y8 fun K hK => ?_) | refine Y9 ?_ | (apply hK; clear hK K) | refine Ya ?_ | (refine Yb rfl ?_ ?_ <;> intro hcnd <;> (try simp at hcnd) <;> try exact dc) | refine Yc ?_ | (refine Ye ?_; refine Yf ?_) | refine Yg ?_ | (simp only [X0, Nat.reduceBEq]) | clear hK K)
    · refine hJ2.le _ _ _ _ ?_ (main2 { q with policies := qs } a' ⟨w.time, by dsimp only; omega, w.names, w.issuers, w.maxlen⟩ (by assumption))
      exact Yr [some 0, some 1, some 2, some 3] (by simp [rowsOver, rowRen_live, rens_pures, rens_pures hgp, QR, strV])
    · refine hJ2.le _ _ _ _ ?_ (main2 q a' w (by assumption))
      exact Yr [some 0, some 1, some 2, some 3] (by simp [rowsOver, rowRen_live, rens_pures, rens_pures hgp, QR])
  clear hK1
  repeat' (first | (refine Y0 rfl fun K9 h9 => ?_; simp (disch := first | exact dd | fail); (try simp (disch := first | exact de | fail) only [X7]); ((first | (refine acall_dc n4 rfl (by assumption) (by simp) (fun r a' ha' hQ hr => ?_); obtain ⟨x, hx1, hx2, rfl⟩ := hQ; clear hr) | (refine acall_dc n6 rfl (by assumption) (by simp) (fun r a' ha' hQ hr => ?_); obtain ⟨x, hx1, hx2, rfl⟩ := hQ; clear hr) | (refine acall_dc n3 rfl (by assumption) (by simp) (fun r a' ha' hQ hr => ?_); obtain ⟨x, hx1, hx2, rfl⟩ := hQ; clear hr) | skip) <;> ((repeat (refine Yz ?_)); (first | refine h9 _ _ (Ys ?_)); clear h9 K9))) | refine Y6 ?_ | (refine Y8 fun K hK => ?_) | refine Y9 ?_ | (apply hK; clear hK K) | refine Ya ?_ | (refine Yb rfl ?_ ?_ <;> intro hcnd <;> (try simp at hcnd) <;> try exact dc) | refine Yc ?_ | (refine Ye ?_; refine Yf ?_) | refine Yg ?_ | (simp only [X0, Nat.reduceBEq]) | clear hK K)
  rename_i _ _ m hm1 hm2 _ _ e1 _ _ _ _ e2 _ _ _ _ e3 _ _
  refine hJ1.le _ _ ([.ref 0 0, .junk, .ref 1 0, .ref 2 0, .junk, .junk, .junk, .junk, .junk, .junk, .junk, .junk, .junk, .junk, .junk, .junk, .junk, .junk, .junk, .junk, .junk, .junk, .junk, .junk, .junk, .junk, .junk, .junk, .junk, .junk, .junk, .junk, .junk, .junk, .junk, .junk, .junk, .junk, .junk, .junk, .junk, .junk, .junk, .junk, .junk, .junk, .junk, .junk, .junk, .junk, .junk, .junk, .junk, .junk, .junk, .junk, .junk, .junk, .junk]) [.live (dk l a'), .live [.int .i64 0, .str [], .int .i64 0, .nils, .bool false, .bool false, .bool false, .nils, .int .i64 0, .bool false, .nils], .live [.int .i64 2000, .str [], .int .i64 0, .nils, .bool (e1 == 1), .bool (e2 == 1), .bool (e3 == 1), .osl 3 0 0 3, .int .i64 (1 + m), .bool (x == 1), .nils], .live []] ?_ ?_
  · exact Yr [some 0, some 1, some 2, none] (by simp [rowsOver, rowRen_live, rens_pures])
  refine hJ1.nz (rows' := [.live (dk l a'), .live [.int .i64 0, .str [], .int .i64 0, .sl 0 [], .bool false, .bool false, .bool false, .sl 0 [], .int .i64 0, .bool false, .sl 0 []], .live [.int .i64 2000, .str [], .int .i64 0, .sl 0 [], .bool (e1 == 1), .bool (e2 == 1), .bool (e3 == 1), .osl 3 0 0 3, .int .i64 (1 + m), .bool (x == 1), .sl 0 []], .live []]) (by simp [nzRow, nz, dk_nz]) ?_
  refine hJ1.le _ _ _ _ ?_ (main1 ⟨2000, [], 0, [], e1 == 1, e2 == 1, e3 == 1, [], 1 + m, x == 1, []⟩ a' ⟨rfl, by simp, by simp, by simp, by dsimp only; omega⟩ ha')
  exact Yr [some 0, some 1, some 2, some 3] (by simp [rowsOver, rowRen_live, rens_pures, QR, strV, gnsV, ansV])
end Go.Proofs.YtcfmanhblonjeaaGreatDoor

