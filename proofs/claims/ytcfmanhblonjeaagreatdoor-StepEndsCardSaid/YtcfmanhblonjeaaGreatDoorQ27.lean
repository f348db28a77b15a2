/-
  STEP: distribution points from a deck.
  Conditions: none.
-/
import Derived.Test.YtcfmanhblonjeaaGreatDoorGe
import Derived.Test.YtcfmanhblonjeaaGreatDoorGf
import Derived.Test.YtcfmanhblonjeaaGreatDoorGg
import Derived.Test.YtcfmanhblonjeaaGreatDoorGh
import Derived.Test.YtcfmanhblonjeaaGreatDoorGj
import Derived.Test.YtcfmanhblonjeaaGreatDoorGl
import Derived.Test.YtcfmanhblonjeaaGreatDoorQ16
import Derived.Test.YtcfmanhblonjeaaGreatDoorQ17
import Derived.Test.YtcfmanhblonjeaaGreatDoorQ18
import Derived.Test.YtcfmanhblonjeaaGreatDoorQ19
import Derived.Test.YtcfmanhblonjeaaGreatDoorQ25
import Derived.Test.YtcfmanhblonjeaaGreatDoorQ26
import Derived.Test.YtcfmanhblonjeaaGreatDoorTab
import Derived.Test.YtcfmanhblonjeaaGreatDoorGd
import Derived.Test.YtcfmanhblonjeaaGreatDoorGi
import Derived.Test.YtcfmanhblonjeaaGreatDoorVs33
import Derived.Test.YtcfmanhblonjeaaGreatDoorVs34
import Derived.Test.YtcfmanhblonjeaaGreatDoorVs35
set_option linter.all false
namespace Go.Stp
open Go.VS
theorem ptc_len (p : Pt) : p.c.length = 4 := rfl
theorem ptc_one (p : Pt) : ∀ x ∈ p.c, x.one = true := fun x hx => by
  simp [Pt.c] at hx
  rcases hx with rfl | rfl | rfl | rfl <;> rfl
@[simp] theorem pts_pures (l : List Pt) : Pures (l.flatMap Pt.c) := flat_pures (fun m => by simp [Pt.c]) l
theorem pts_len (l : List Pt) : (l.flatMap Pt.c).length = l.length * 4 := flat_len ptc_len l
theorem pts_one (l : List Pt) : ∀ x ∈ l.flatMap Pt.c, x.one = true := flat_one ptc_one l
theorem ptc_nz (p : Pt) : p.c.map nz = p.c := rfl
theorem pts_nz : ∀ l : List Pt, (l.flatMap Pt.c).map nz = l.flatMap Pt.c
  | [] => rfl
  | p :: l => by rw [List.flatMap_cons, List.map_append, ptc_nz, pts_nz l]
theorem pts_put (l : List Pt) (p : Pt) : (l ++ [p]).flatMap Pt.c = l.flatMap Pt.c ++ p.c := by simp
theorem dk_nz (l : List Int) (a : Nat) : (Go.Proofs.YtcfmanhblonjeaaGreatDoor.dk l a).map nz = Go.Proofs.YtcfmanhblonjeaaGreatDoor.dk l a := rfl
def placeL : List (List UInt8) := [[97, 46, 101, 120, 97, 109, 112, 108, 101, 46, 111, 114, 103], [65, 46, 69, 120, 97, 109, 112, 108, 101, 46, 111, 114, 103], [98, 46, 101, 120, 97, 109, 112, 108, 101, 46, 111, 114, 103]]
def placeG (k : Int) : Gn := ⟨2, placeL.getD k.toNat [], []⟩
theorem gplace (k : Int) : gnsV [placeG k] = .sl 1 [.int .i64 2, .str (placeL.getD k.toNat []), .sl 0 []] := by simp [gnsV, Gn.c, placeG]
structure WPt (p : Pt) : Prop where
  names : p.names = [] ∨ ∃ k, 0 ≤ k ∧ k < 3 ∧ p.names = [placeG k]
  issuer : (p.has = false ∧ p.issuer = [] ∧ p.names ≠ []) ∨ (p.has = true ∧ ∃ j, 0 ≤ j ∧ j < 4 ∧ p.issuer = authN (namedN (Int.toNat j)))
  reasons : p.reasons = 0 ∨ p.reasons = 2 ∨ p.reasons = 510 ∨ p.reasons = 508
def ptsQ (n : Nat) (r : V) : Prop := ∃ ps : List Pt, 1 ≤ ps.length ∧ ps.length ≤ n ∧ (∀ p ∈ ps, WPt p) ∧ r = ptsV ps
end Go.Stp
namespace Go.Proofs.YtcfmanhblonjeaaGreatDoor
open Go.VS Go.Stp
set_option linter.all false
set_option maxRecDepth 100000
set_option maxHeartbeats 8000000
attribute [local irreducible] arun arunD arunU AWp aend
theorem place_call (k : Int) (h0 : 0 ≤ k) (h : k < 3) : PCall Tryz.prog 69 [.int .i64 k] (.agg (placeG k).c) := by
  rcases (show k = 0 ∨ k = 1 ∨ k = 2 by omega) with rfl | rfl | rfl
  · refine pcall_nzt (r := .agg [.int .i64 2, .str (placeL.getD 0 []), .nils]) ?_ rfl (by simp)
    refine pcall_body Tryz.func69 rfl Tryz.call69 ?_ ?_
    rotate_left 1
    refine awp_slots (s' := (.int .i64 0 : V) :: zJ 8) rfl ?_; dsimp only [zJ]
    repeat' (first | (refine Y0 rfl fun K9 h9 => ?_; simp (disch := first | exact dd | fail); (try simp (disch := first | exact de | fail) only [X7]); ((repeat (refine Yz ?_)); (first | refine h9 _ _ (Ys ?_)); clear h9 K9)) | refine Y6 ?_ | (refine Y8 fun K hK => ?_) | refine Y9 ?_ | (apply hK; clear hK K) | (refine Ye ?_; refine Yf ?_) | refine Yg ?_ | (simp only [X0, Nat.reduceBEq]) | clear hK K)
    · simp [placeL]
      exact .pure (by simp)
    · simp
  · refine pcall_nzt (r := .agg [.int .i64 2, .str (placeL.getD 1 []), .nils]) ?_ rfl (by simp)
    refine pcall_body Tryz.func69 rfl Tryz.call69 ?_ ?_
    rotate_left 1
    refine awp_slots (s' := (.int .i64 1 : V) :: zJ 8) rfl ?_; dsimp only [zJ]
    repeat' (first | (refine Y0 rfl fun K9 h9 => ?_; simp (disch := first | exact dd | fail); (try simp (disch := first | exact de | fail) only [X7]); ((repeat (refine Yz ?_)); (first | refine h9 _ _ (Ys ?_)); clear h9 K9)) | refine Y6 ?_ | (refine Y8 fun K hK => ?_) | refine Y9 ?_ | (apply hK; clear hK K) | (refine Ye ?_; refine Yf ?_) | refine Yg ?_ | (simp only [X0, Nat.reduceBEq]) | clear hK K)
    · simp [placeL]
      exact .pure (by simp)
    · simp
  · refine pcall_nzt (r := .agg [.int .i64 2, .str (placeL.getD 2 []), .nils]) ?_ rfl (by simp)
    refine pcall_body Tryz.func69 rfl Tryz.call69 ?_ ?_
    rotate_left 1
    refine awp_slots (s' := (.int .i64 2 : V) :: zJ 8) rfl ?_; dsimp only [zJ]
    repeat' (first | (refine Y0 rfl fun K9 h9 => ?_; simp (disch := first | exact dd | fail); (try simp (disch := first | exact de | fail) only [X7]); ((repeat (refine Yz ?_)); (first | refine h9 _ _ (Ys ?_)); clear h9 K9)) | refine Y6 ?_ | (refine Y8 fun K hK => ?_) | refine Y9 ?_ | (apply hK; clear hK K) | (refine Ye ?_; refine Yf ?_) | refine Yg ?_ | (simp only [X0, Nat.reduceBEq]) | clear hK K)
    · simp [placeL]
      exact .pure (by simp)
    · simp
theorem place_i (k : Int) (h0 : 0 ≤ k) (h : k < 3) : PCall Tryz.prog 69 [.int .i64 k] (.agg [.int .i64 2, .str (placeL.getD k.toNat []), .sl 0 []]) := place_call k h0 h
theorem named_i (x : Int) (h0 : 0 ≤ x) (h : x < 8) : PCall Tryz.prog 21 [.int .i64 x] (.int .i64 (namedN x.toNat)) := by
  have := named_call x.toNat (by omega)
  rwa [show ((x.toNat : Nat) : Int) = x by omega] at this

theorem points_dc {l : List Int} (h : DkOk l) : DC Tryz.prog 49 [] l (ptsQ 3) := by
  intro a ha
  have n3 : DC Tryz.prog 7 [.int .i64 3] l (IntQ 3) := next_dc h 3 (by omega) (by omega)
  have n4 : DC Tryz.prog 7 [.int .i64 4] l (IntQ 4) := next_dc h 4 (by omega) (by omega)
  have n5 : DC Tryz.prog 7 [.int .i64 5] l (IntQ 5) := next_dc h 5 (by omega) (by omega)
  refine eg_body Tryz.func49 rfl Tryz.call49 ?_
  refine awp_slots (s' := (.ref 0 0 : V) :: zJ 46) rfl ?_; dsimp only [zJ]
  refine awp_rows (rows' := [.live (dk l a)]) rfl ?_
  iterate 10 (first | ((first | refine Y0 rfl fun K9 h9 => ?_ | (refine Y3 ?_ ?_; (focus (simp; done)); intro K9 h9)); simp (disch := first | exact dd | fail); (try simp (disch := first | exact de | fail) only [X7]); ((repeat (refine Yz ?_)); (first | refine h9 _ _ (Ys ?_)); clear h9 K9)) | refine Y6 ?_ | (refine Y8 fun K hK => ?_) | refine Y9 ?_ | (apply hK; clear hK K) | refine Ya ?_ | (refine Yb rfl ?_ ?_ <;> intro hcnd <;> (try simp at hcnd) <;> try exact dc) | refine Yc ?_ | (refine Yd ?_; simp only [X0, Nat.reduceBEq]) | (refine Ye ?_; refine Yf ?_) | (refine Yh ?_ ?_; (focus (simp; done)); refine Ys ?_) | refine Yg ?_ | (simp only [X0, Nat.reduceBEq]) | (clear hK K; first | (apply hK; clear hK K) | (clear hK K; first | (apply hK; clear hK K) | (clear hK K; first | (apply hK; clear hK K) | (clear hK K; apply hK; clear hK K)))))
  refine awp_seqJ fun K1 hK1 hJ1 => ?_
  have main1 : ∀ (ps : List Pt) (b : Nat), 1 ≤ ps.length → ps.length ≤ 3 → (∀ p ∈ ps, WPt p) → b ≤ l.length → K1 ([.ref 0 0, .junk, .junk, .osl 1 0 ps.length 4, .junk, .junk, .junk, .junk, .junk, .junk, .junk, .junk, .junk, .junk, .junk, .junk, .junk, .junk, .junk, .junk, .junk, .junk, .junk, .junk, .junk, .junk, .junk, .junk, .junk, .junk, .junk, .junk, .junk, .junk, .junk, .junk, .junk, .junk, .junk, .junk, .junk, .junk, .junk, .junk, .junk, .junk, .junk]) [.live (dk l b), .live (ps.flatMap Pt.c)] := by
    intro ms b hm1 hm hw hb
    refine hK1 _ _ ?_
    clear hK1 hJ1
    clear K1
    have hmV : ptsV ms = .sl ms.length (ms.flatMap Pt.c) := rfl
    have hml := pts_len ms
    have hmp := pts_pures ms
    have hmQ : ptsQ 3 (ptsV ms) := ⟨ms, hm1, hm, hw, rfl⟩
    rw [hmV] at hmQ
    generalize ms.flatMap Pt.c = cells at *
    have e : List.take (ms.length * 4) cells = cells := List.take_of_length_le (by omega)
    refine awp_freeze' 1 rfl hmp (by simp [fz, hml, e]; rfl) (by simp [fzRow, fz, fz_map (dk_pures _ _)]; rfl) ?_
    repeat' (first | ((first | refine Y0 rfl fun K9 h9 => ?_ | (refine Y3 ?_ ?_; (focus (simp; done)); intro K9 h9)); simp (disch := first | exact dd | fail); (try simp (disch := first | exact de | fail) only [X7]); ((repeat (refine Yz ?_)); (first | refine h9 _ _ (Ys ?_)); clear h9 K9)) | refine Y6 ?_ | (refine Y8 fun K hK => ?_) | refine Y9 ?_ | (apply hK; clear hK K) | refine Ya ?_ | (refine Yb rfl ?_ ?_ <;> intro hcnd <;> (try simp at hcnd) <;> try exact dc) | refine Yc ?_ | (refine Yd ?_; simp only [X0, Nat.reduceBEq]) | (refine Ye ?_; refine Yf ?_) | (refine Yh ?_ ?_; (focus (simp; done)); refine Ys ?_) | refine Yg ?_ | (simp only [X0, Nat.reduceBEq]) | clear hK K)
    refine ⟨.sl ms.length cells, [dk l b], ⟨b, hb, hmQ, rfl⟩, by simp, rfl, by simp, ?_⟩
    exact Le.mk [some 0] (by simp [sget]) (rowsRen_of (by simp) (by simp [rowsOver, rowRen_live, rens_pures])) (by simp)
  clear hK1
  repeat' (first | ((first | refine Y0 rfl fun K9 h9 => ?_ | (refine Y3 ?_ ?_; (focus (simp; done)); intro K9 h9)); simp (disch := first | exact dd | fail); (try simp (disch := first | exact de | fail) only [X7]); ((first | (refine acall_dc n3 rfl (by assumption) (by simp) (fun r a' ha' hQ hr => ?_); obtain ⟨x, hx1, hx2, rfl⟩ := hQ; clear hr) | skip) <;> ((repeat (refine Yz ?_)); (first | refine h9 _ _ (Ys ?_)); clear h9 K9))) | refine Y6 ?_ | (refine Y8 fun K hK => ?_) | refine Y9 ?_ | (apply hK; clear hK K) | refine Ya ?_ | (refine Yb rfl ?_ ?_ <;> intro hcnd <;> (try simp at hcnd) <;> try exact dc) | refine Yc ?_ | (refine Yd ?_; simp only [X0, Nat.reduceBEq]) | (refine Ye ?_; refine Yf ?_) | (refine Yh ?_ ?_; (focus (simp; done)); refine Ys ?_) | refine Yg ?_ | (simp only [X0, Nat.reduceBEq]) | clear hK K)
  obtain ⟨m, rfl⟩ : ∃ m, m = x := ⟨_, rfl⟩
  refine awp_loopU (α := Nat × List Pt × Nat) (fun q => (zN 2 (some V.junk :: some (V.osl 1 0 q.2.1.length 4) :: some (V.int .i64 (1 + m - q.1)) :: zS 42 []))) (fun q => [.live (dk l q.2.2), .live (q.2.1.flatMap Pt.c)]) (fun q => (q.1 : Int) ≤ 1 + m ∧ q.2.1.length = q.1 ∧ (∀ p ∈ q.2.1, WPt p) ∧ q.2.2 ≤ l.length) (fun q => 4 - q.1) (0, [], a') ⟨by omega, by simp, by simp, ha'⟩ ?_ ?_
  · dsimp only [ups, zN, zS]
    exact Yr [some 0, none] (by simp [rowsOver, rowRen_live, rens_pures])
  rintro ⟨i, ps, b⟩ ⟨hi, hpl, hps, hb⟩ KL hL
  dsimp only at hi hpl hps hb
  dsimp only [ups, zN, zS]
  rcases (show (i : Int) < 1 + m ∨ (i : Int) = 1 + m by omega) with hi | hi
  · clear main1 hJ1
    have hml := pts_len ps
    have hmp := pts_pures ps
    have hmo := pts_one ps
    have hnz := pts_nz ps
    have hL' : ∀ (p : Pt) (c : Nat) s' rows', WPt p → c ≤ l.length → _ := fun p c s' rows' h1 h2 => hL (i + 1, ps ++ [p], c) s' rows' ⟨by dsimp only; omega, by simp; omega, fun q hq => by
      simp at hq
      rcases hq with hq | rfl
      · exact hps q hq
      · exact h1, h2⟩ (by dsimp only; omega)
    dsimp only at hL'
    simp only [pts_put, List.length_append, List.length_singleton] at hL'
    clear hL hps
    generalize ps.flatMap Pt.c = cells at *
    have e : List.take (ps.length * 4) cells = cells := List.take_of_length_le (by omega)
    iterate 12 (first | ((first | refine Y0 rfl fun K9 h9 => ?_ | (refine Y3 ?_ ?_; (focus (simp; done)); intro K9 h9)); simp (disch := first | exact dd | fail); (try simp (disch := first | exact de | fail) only [X7]); ((repeat (refine Yz ?_)); (first | refine h9 _ _ (Ys ?_)); clear h9 K9)) | refine Y6 ?_ | (refine Y8 fun K hK => ?_) | refine Y9 ?_ | (apply hK; clear hK K) | refine Ya ?_ | (refine Yb rfl ?_ ?_ <;> intro hcnd <;> (try simp at hcnd) <;> try exact dc) | refine Yc ?_ | (refine Yd ?_; simp only [X0, Nat.reduceBEq]) | (refine Ye ?_; refine Yf ?_) | (refine Yh ?_ ?_; (focus (simp; done)); refine Ys ?_) | refine Yg ?_ | (simp only [X0, Nat.reduceBEq]) | (clear hK K; first | (apply hK; clear hK K) | (clear hK K; first | (apply hK; clear hK K) | (clear hK K; first | (apply hK; clear hK K) | (clear hK K; apply hK; clear hK K)))))
    refine awp_seqJ fun K2 hK2 hJ2 => ?_
    have main2 : ∀ (re : Int) (b : Nat), (re = 0 ∨ re = 2 ∨ re = 510 ∨ re = 508) → b ≤ l.length → K2 ([.ref 0 0, .junk, .junk, .osl 1 0 ps.length 4, .int .i64 (1 + m - i), .ref 2 0, .junk, .junk, .junk, .junk, .junk, .junk, .junk, .junk, .junk, .junk, .junk, .junk, .junk, .junk, .junk, .junk, .junk, .junk, .junk, .junk, .junk, .junk, .junk, .junk, .junk, .junk, .junk, .junk, .junk, .junk, .junk, .junk, .junk, .junk, .junk, .junk, .junk, .junk, .junk, .junk, .junk]) [.live (dk l b), .live cells, .live [.sl 0 [], .int .i64 re, .bool false, .sl 0 []]] := by
      intro re b hre hb
      refine hK2 _ _ ?_
      clear hK2 hJ2
      clear K2
      refine awp_seqJ fun K3 hK3 hJ3 => ?_
      have main3 : ∀ (nm : List Gn) (b : Nat), (nm = [] ∨ ∃ k, 0 ≤ k ∧ k < 3 ∧ nm = [placeG k]) → b ≤ l.length → K3 ([.ref 0 0, .junk, .junk, .osl 1 0 ps.length 4, .int .i64 (1 + m - i), .ref 2 0, .junk, .junk, .junk, .junk, .junk, .junk, .junk, .junk, .junk, .junk, .junk, .junk, .junk, .junk, .junk, .junk, .junk, .junk, .junk, .junk, .junk, .junk, .junk, .junk, .junk, .junk, .junk, .junk, .junk, .junk, .junk, .junk, .junk, .junk, .junk, .junk, .junk, .junk, .junk, .junk, .junk]) [.live (dk l b), .live cells, .live [gnsV nm, .int .i64 re, .bool false, .sl 0 []]] := by
        intro nm b hnm hb
        refine hK3 _ _ ?_
        clear hK3 hJ3
        clear K3
        refine awp_seqJ fun K4 hK4 hJ4 => ?_
        have main4 : ∀ (p : Pt) (b : Nat), WPt p → b ≤ l.length → K4 ([.ref 0 0, .junk, .junk, .osl 1 0 ps.length 4, .int .i64 (1 + m - i), .ref 2 0, .junk, .junk, .junk, .junk, .junk, .junk, .junk, .junk, .junk, .junk, .junk, .junk, .junk, .junk, .junk, .junk, .junk, .junk, .junk, .junk, .junk, .junk, .junk, .junk, .junk, .junk, .junk, .junk, .junk, .junk, .junk, .junk, .junk, .junk, .junk, .junk, .junk, .junk, .junk, .junk, .junk]) [.live (dk l b), .live cells, .live p.c] := by
          intro p b hp hb
          refine hK4 _ _ ?_
          clear hK4 hJ4
          clear K4
          have hL2 := hL' p b
          have hp3 : Pures (cells ++ p.c) := by simp [hmp, Pt.c]
          rw [Pt.c.eq_1] at hL2 hp3 ⊢
          repeat' (first | ((first | refine Y0 rfl fun K9 h9 => ?_ | (refine Y3 ?_ ?_; (focus (simp [hml, e]; done)); intro K9 h9)); simp (disch := first | exact dd | fail) [hml, e]; (try simp (disch := first | exact de | fail) only [X7]); ((repeat (refine Yz ?_)); (first | refine h9 _ _ (Ys ?_)); clear h9 K9)) | refine Y6 ?_ | (refine Y8 fun K hK => ?_) | refine Y9 ?_ | (apply hK; clear hK K) | refine Ya ?_ | (refine Yb rfl ?_ ?_ <;> intro hcnd <;> (try simp at hcnd) <;> try exact dc) | refine Yc ?_ | (refine Yd ?_; simp only [X0, Nat.reduceBEq]) | (refine Ye ?_; refine Yf ?_) | (refine Yh ?_ ?_; (focus (simp [hml, e]; done)); refine Ys ?_) | refine Yg ?_ | (simp only [X0, Nat.reduceBEq]) | clear hK K)
          refine hL2 _ _ hp hb ?_
          exact Yr [some 0, some 4] (by simp [rowsOver, rowRen_live, rens_pures, rens_pures hp3])
        clear hK4 hL'
        clear n5 n3
        rcases hnm with rfl | ⟨k, hk0, hk3, rfl⟩
        · have hn : gnsV [] = .sl 0 [] := rfl
          rw [hn]
          repeat' (first | ((first | refine Yl rfl fun K9 h9 => ?_ | (refine Ym ?_ ?_; (focus (simp [hn]; done)); intro K9 h9)); simp (disch := first | exact dd | fail) [hn]; (try simp (disch := first | exact de | fail) only [X7]); ((first | (refine acall_dc n4 rfl (by assumption) (by simp) (fun r a' ha' hQ hr => ?_); obtain ⟨x, hx1, hx2, rfl⟩ := hQ; clear hr) | refine Ap (named_i _ (by omega) (by omega)) ?_ | refine Ap (auth_call _ (namedN_lt _ (by omega))) ?_ | skip) <;> ((repeat (refine Yz ?_)); (first | refine h9 _ _ (Yp ?_)); clear h9 K9))) | refine Yo ?_ | (refine Y8 fun K hK => ?_) | refine Yq ?_ | (apply hK; clear hK K) | refine Ya ?_ | (refine Yb rfl ?_ ?_ <;> intro hcnd <;> (try simp at hcnd) <;> try exact dc) | refine Yc ?_ | (refine Yd ?_; simp only [X0, Nat.reduceBEq]) | (refine Ye ?_; refine Yf ?_) | (refine Yn ?_ ?_; (focus (simp [hn]; done)); refine Yp ?_) | refine Yg ?_ | (simp only [X0, Nat.reduceBEq]) | clear hK K)
          refine hJ4.le _ _ _ _ ?_ (main4 ⟨[], re, true, authN (namedN x.toNat)⟩ a' ⟨.inl rfl, .inr ⟨rfl, x, by omega, by omega, rfl⟩, hre⟩ ha')
          exact Yr [some 0, some 1, some 2] (by simp [rowsOver, rowRen_live, rens_pures, rens_pures hmp, Pt.c, hn])
        · rw [gplace]
          have hgp := gplace k
          repeat' (first | ((first | refine Yl rfl fun K9 h9 => ?_ | (refine Ym ?_ ?_; (focus (simp; done)); intro K9 h9)); simp (disch := first | exact dd | fail); (try simp (disch := first | exact de | fail) only [X7]); ((first | (refine acall_dc n4 rfl (by assumption) (by simp) (fun r a' ha' hQ hr => ?_); obtain ⟨x, hx1, hx2, rfl⟩ := hQ; clear hr) | refine Ap (named_i _ (by omega) (by omega)) ?_ | refine Ap (auth_call _ (namedN_lt _ (by omega))) ?_ | skip) <;> ((repeat (refine Yz ?_)); (first | refine h9 _ _ (Yp ?_)); clear h9 K9))) | refine Yo ?_ | (refine Y8 fun K hK => ?_) | refine Yq ?_ | (apply hK; clear hK K) | refine Ya ?_ | (refine Yb rfl ?_ ?_ <;> intro hcnd <;> (try simp at hcnd) <;> try exact dc) | refine Yc ?_ | (refine Yd ?_; simp only [X0, Nat.reduceBEq]) | (refine Ye ?_; refine Yf ?_) | (refine Yn ?_ ?_; (focus (simp; done)); refine Yp ?_) | refine Yg ?_ | (simp only [X0, Nat.reduceBEq]) | clear hK K)
          · refine hJ4.le _ _ _ _ ?_ (main4 ⟨[placeG k], re, true, authN (namedN x.toNat)⟩ a' ⟨.inr ⟨k, hk0, hk3, rfl⟩, .inr ⟨rfl, x, by omega, by omega, rfl⟩, hre⟩ ha')
            exact Yr [some 0, some 1, some 2] (by simp [rowsOver, rowRen_live, rens_pures, rens_pures hmp, Pt.c, hgp])
          · refine hJ4.le _ _ _ _ ?_ (main4 ⟨[placeG k], re, false, []⟩ a' ⟨.inr ⟨k, hk0, hk3, rfl⟩, .inl ⟨rfl, rfl, by simp⟩, hre⟩ ha')
            exact Yr [some 0, some 1, some 2] (by simp [rowsOver, rowRen_live, rens_pures, rens_pures hmp, Pt.c, hgp, nmV])
      clear hK3 hL'
      repeat' (first | ((first | refine Y0 rfl fun K9 h9 => ?_ | (refine Y3 ?_ ?_; (focus (simp; done)); intro K9 h9)); simp (disch := first | exact dd | fail); (try simp (disch := first | exact de | fail) only [X7]); ((first | (refine acall_dc n4 rfl (by assumption) (by simp) (fun r a' ha' hQ hr => ?_); obtain ⟨x, hx1, hx2, rfl⟩ := hQ; clear hr) | (refine acall_dc n3 rfl (by assumption) (by simp) (fun r a' ha' hQ hr => ?_); obtain ⟨x, hx1, hx2, rfl⟩ := hQ; clear hr) | refine Ap (place_i _ (by omega) (by omega)) ?_ | skip) <;> ((repeat (refine Yz ?_)); (first | refine h9 _ _ (Ys ?_)); clear h9 K9))) | refine Y6 ?_ | (refine Y8 fun K hK => ?_) | refine Y9 ?_ | (apply hK; clear hK K) | refine Ya ?_ | (refine Yb rfl ?_ ?_ <;> intro hcnd <;> (try simp at hcnd) <;> try exact dc) | refine Yc ?_ | (refine Yd ?_; simp only [X0, Nat.reduceBEq]) | (refine Ye ?_; refine Yf ?_) | (refine Yh ?_ ?_; (focus (simp; done)); refine Ys ?_) | refine Yg ?_ | (simp only [X0, Nat.reduceBEq]) | clear hK K)
      · refine hJ3.fz 3 rfl (by simp) (by simp [fz]; rfl) (by simp [fzRow, fz, fz_map (dk_pures _ _), fz_map hmp]; rfl) ?_
        refine hJ3.le _ _ _ _ ?_ (main3 [placeG x] a' (.inr ⟨x, by omega, by omega, rfl⟩) ha')
        exact Yr [some 0, some 1, some 2] (by simp [rowsOver, rowRen_live, rens_pures, rens_pures hmp, gplace])
      · refine hJ3.le _ _ _ _ ?_ (main3 [] a' (.inl rfl) ha')
        exact Yr [some 0, some 1, some 2] (by simp [rowsOver, rowRen_live, rens_pures, rens_pures hmp, gnsV])
    clear hK2 hL'
    repeat' (first | ((first | refine Y0 rfl fun K9 h9 => ?_ | (refine Y3 ?_ ?_; (focus (simp; done)); intro K9 h9)); simp (disch := first | exact dd | fail); (try simp (disch := first | exact de | fail) only [X7]); ((first | (refine acall_dc n5 rfl (by assumption) (by simp) (fun r a' ha' hQ hr => ?_); obtain ⟨x, hx1, hx2, rfl⟩ := hQ; clear hr; rcases (show x = 0 ∨ x = 1 ∨ x = 2 ∨ x = 3 ∨ x = 4 by omega) with rfl | rfl | rfl | rfl | rfl) | skip) <;> ((repeat (refine Yz ?_)); (first | refine h9 _ _ (Ys ?_)); clear h9 K9))) | refine Y6 ?_ | (refine Y8 fun K hK => ?_) | refine Y9 ?_ | (apply hK; clear hK K) | refine Ya ?_ | (refine Yb rfl ?_ ?_ <;> intro hcnd <;> (try simp at hcnd) <;> try exact dc) | refine Yc ?_ | (refine Yd ?_; simp only [X0, Nat.reduceBEq]) | (refine Ye ?_; refine Yf ?_) | (refine Yh ?_ ?_; (focus (simp; done)); refine Ys ?_) | refine Yg ?_ | (simp only [X0, Nat.reduceBEq]) | clear hK K)
    · refine hJ2.nz (rows' := [.live (dk l a'), .live cells, .live [.int .i64 0, .int .i64 0, .int .i64 2, .int .i64 510, .int .i64 508], .live [.sl 0 [], .int .i64 0, .bool false, .sl 0 []]]) (by simp [nzRow, nz, hnz, dk_nz]) ?_
      refine hJ2.le _ _ _ _ ?_ (main2 0 a' (by simp) ha')
      exact Yr [some 0, some 1, some 3] (by simp [rowsOver, rowRen_live, rens_pures, rens_pures hmp])
    · refine hJ2.nz (rows' := [.live (dk l a'), .live cells, .live [.int .i64 0, .int .i64 0, .int .i64 2, .int .i64 510, .int .i64 508], .live [.sl 0 [], .int .i64 0, .bool false, .sl 0 []]]) (by simp [nzRow, nz, hnz, dk_nz]) ?_
      refine hJ2.le _ _ _ _ ?_ (main2 0 a' (by simp) ha')
      exact Yr [some 0, some 1, some 3] (by simp [rowsOver, rowRen_live, rens_pures, rens_pures hmp])
    · refine hJ2.nz (rows' := [.live (dk l a'), .live cells, .live [.int .i64 0, .int .i64 0, .int .i64 2, .int .i64 510, .int .i64 508], .live [.sl 0 [], .int .i64 2, .bool false, .sl 0 []]]) (by simp [nzRow, nz, hnz, dk_nz]) ?_
      refine hJ2.le _ _ _ _ ?_ (main2 2 a' (by simp) ha')
      exact Yr [some 0, some 1, some 3] (by simp [rowsOver, rowRen_live, rens_pures, rens_pures hmp])
    · refine hJ2.nz (rows' := [.live (dk l a'), .live cells, .live [.int .i64 0, .int .i64 0, .int .i64 2, .int .i64 510, .int .i64 508], .live [.sl 0 [], .int .i64 510, .bool false, .sl 0 []]]) (by simp [nzRow, nz, hnz, dk_nz]) ?_
      refine hJ2.le _ _ _ _ ?_ (main2 510 a' (by simp) ha')
      exact Yr [some 0, some 1, some 3] (by simp [rowsOver, rowRen_live, rens_pures, rens_pures hmp])
    · refine hJ2.nz (rows' := [.live (dk l a'), .live cells, .live [.int .i64 0, .int .i64 0, .int .i64 2, .int .i64 510, .int .i64 508], .live [.sl 0 [], .int .i64 508, .bool false, .sl 0 []]]) (by simp [nzRow, nz, hnz, dk_nz]) ?_
      refine hJ2.le _ _ _ _ ?_ (main2 508 a' (by simp) ha')
      exact Yr [some 0, some 1, some 3] (by simp [rowsOver, rowRen_live, rens_pures, rens_pures hmp])
  · clear n3 n4 n5
    repeat' (first | ((first | refine Y0 rfl fun K9 h9 => ?_ | (refine Y3 ?_ ?_; (focus (simp; done)); intro K9 h9)); simp (disch := first | exact dd | fail); (try simp (disch := first | exact de | fail) only [X7]); ((repeat (refine Yz ?_)); (first | refine h9 _ _ (Ys ?_)); clear h9 K9)) | refine Y6 ?_ | (refine Y8 fun K hK => ?_) | refine Y9 ?_ | (apply hK; clear hK K) | refine Ya ?_ | (refine Yb rfl ?_ ?_ <;> intro hcnd <;> (try simp at hcnd) <;> try exact dc) | refine Yc ?_ | (refine Yd ?_; simp only [X0, Nat.reduceBEq]) | (refine Ye ?_; refine Yf ?_) | (refine Yh ?_ ?_; (focus (simp; done)); refine Ys ?_) | refine Yg ?_ | (simp only [X0, Nat.reduceBEq]) | clear hK K)
    refine hJ1.le _ _ _ _ ?_ (main1 ps b (by omega) (by omega) hps hb)
    exact Yr [some 0, some 1] (by simp [rowsOver, rowRen_live, rens_pures])
end Go.Proofs.YtcfmanhblonjeaaGreatDoor

