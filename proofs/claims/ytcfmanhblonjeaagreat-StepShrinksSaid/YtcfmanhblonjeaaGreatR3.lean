/-
  STEP: StepShrinks.
  Conditions: none.
-/
import Derived.Test.YtcfmanhblonjeaaGreatGe
import Derived.Test.YtcfmanhblonjeaaGreatGf
import Derived.Test.YtcfmanhblonjeaaGreatGp
import Derived.Test.YtcfmanhblonjeaaGreatGq
import Derived.Test.YtcfmanhblonjeaaGreatGr
import Derived.Test.YtcfmanhblonjeaaGreatGg
import Derived.Test.YtcfmanhblonjeaaGreatGh
import Derived.Test.YtcfmanhblonjeaaGreatGj
import Derived.Test.YtcfmanhblonjeaaGreatGl
import Derived.Test.YtcfmanhblonjeaaGreatQ6
import Derived.Test.YtcfmanhblonjeaaGreatQ7
import Derived.Test.YtcfmanhblonjeaaGreatGk
import Derived.Test.YtcfmanhblonjeaaGreatQ16
import Derived.Test.YtcfmanhblonjeaaGreatQ17
import Derived.Test.YtcfmanhblonjeaaGreatQ18
import Derived.Test.YtcfmanhblonjeaaGreatQ19
import Derived.Test.YtcfmanhblonjeaaGreatQ20
import Derived.Test.YtcfmanhblonjeaaGreatQ21
import Derived.Test.YtcfmanhblonjeaaGreatQ25
import Derived.Test.YtcfmanhblonjeaaGreatQ26
import Derived.Test.YtcfmanhblonjeaaGreatQ27
import Derived.Test.YtcfmanhblonjeaaGreatQ28
import Derived.Test.YtcfmanhblonjeaaGreatQ29
import Derived.Test.YtcfmanhblonjeaaGreatQ40
import Derived.Test.YtcfmanhblonjeaaGreatR1
import Derived.Test.YtcfmanhblonjeaaGreatR2
import Derived.Test.YtcfmanhblonjeaaGreatTab
import Derived.Test.YtcfmanhblonjeaaGreatGd
import Derived.Test.YtcfmanhblonjeaaGreatGi
import Derived.Test.YtcfmanhblonjeaaGreatVs30
import Derived.Test.YtcfmanhblonjeaaGreatVs31
import Derived.Test.YtcfmanhblonjeaaGreatVs33
import Derived.Test.YtcfmanhblonjeaaGreatVs34
import Derived.Test.YtcfmanhblonjeaaGreatVs35
import Derived.Test.YtcfmanhblonjeaaGreatVs36
namespace Go.Proofs.YtcfmanhblonjeaaGreat
open Go.VS Go.Stp
set_option linter.all false
set_option maxRecDepth 100000
set_option maxHeartbeats 16000000
theorem leastS_le (n o : Int) : leastS n o ≤ n := by unfold leastS; split <;> omega
theorem leastS_nn {n o : Int} (h : 0 ≤ n) (h2 : -1 ≤ o) : 0 ≤ leastS n o := by unfold leastS; split <;> omega
theorem fallS_le (b : Bool) (n : Int) : fallS b n ≤ n := by unfold fallS decS; split <;> (try split) <;> omega
theorem fallS_nn {b : Bool} {n : Int} (h : 0 ≤ n) : 0 ≤ fallS b n := by unfold fallS decS; split <;> (try split) <;> omega
structure Shr (s P : Pg) : Prop where
  perm : ∀ g, permsB P.names g = true → permsB s.names g = true
  len : P.len ≤ s.len
  expl : P.expl ≤ s.expl
  map : P.map ≤ s.map
  any : P.any ≤ s.any
  expl0 : 0 ≤ P.expl
  map0 : 0 ≤ P.map
  any0 : 0 ≤ P.any
theorem leave_shr {s : Pg} {c : Ce} (ws : WPg s) (wi : WIn c.info) : (leaveK s c ≠ 0 → leaveS s c = zeroPg) ∧ (leaveK s c = 0 → Shr s (leaveS s c)) := by
  unfold leaveS
  refine ⟨fun h => if_neg h, fun h => ?_⟩
  rw [if_pos h]
  have a2 := ws.expl
  have a3 := ws.map
  have a4 := ws.any
  have b2 := wi.rexp
  have b3 := wi.imap
  have b4 := wi.iany
  refine ⟨fun g hg => ?_, ?_, Int.le_trans (leastS_le _ _) (fallS_le _ _), Int.le_trans (leastS_le _ _) (fallS_le _ _), Int.le_trans (leastS_le _ _) (fallS_le _ _), leastS_nn (fallS_nn a2.1) b2.1, leastS_nn (fallS_nn a3.1) b3.1, leastS_nn (fallS_nn a4.1) b4.1⟩
  · unfold leaveP at hg
    dsimp only at hg
    split at hg
    · unfold permsB at hg ⊢
      rw [List.all_append, Bool.and_eq_true] at hg
      exact hg.1
    · exact hg
  · refine Int.le_trans (leastS_le _ _) ?_
    split <;> omega
attribute [local irreducible] arun arunD arunU AWp aend bits
theorem samez_call (P : Pg) (h : P = zeroPg) : PCall Tryz.prog 9 [.agg [nmV P.issuer, .int .i64 P.key.h, .str P.key.id, .str P.key.root, .bool P.lists, .int .i64 P.len, .int .i64 P.expl, .int .i64 P.map, .int .i64 P.any, sbsV P.names], .agg [.nils, .int .i64 0, .str [], .str [], .bool false, .int .i64 0, .int .i64 0, .int .i64 0, .int .i64 0, .nils]] (.bool true) := by
  subst h
  exact pcall_nza (same_call zeroPg ⟨by simp [zeroPg], fun x h => by simp [zeroPg] at h⟩ ⟨by simp [zeroPg], fun x h => by simp [zeroPg] at h⟩) rfl
theorem shrinks_call (l : List Int) (h : DkOk l) : PCall Tryz.prog 3 [.sl l.length (l.map (V.int .i64))] (.bool true) := by
  have aw := awake_call
  have n4 : DC Tryz.prog 7 [.int .i64 4] l (IntQ 4) := next_dc h 4 (by omega) (by omega)
  have pg := progress_dc h
  have gen := gen_dc h
  have ha0 : 0 ≤ l.length := by omega
  refine pcall_body Tryz.func3 rfl Tryz.call3 ?_ ?_
  rotate_left 1
  refine awp_slots (s' := (.sl l.length (l.map (V.int .i64)) : V) :: zJ 94) rfl ?_; dsimp only [zJ]
  · repeat' (first | ((first | refine Y0 rfl fun K9 h9 => ?_ | (refine Y3 ?_ ?_; (focus (simp; done)); intro K9 h9)); simp (disch := (first | (simp; done) | omega | (simp; omega))); (try simp (disch := (first | omega | (simp; omega))) only [X7]); ((first | refine acall_new (deck_call l) (dk_pures _ _) (by simp) ?_ | (refine acall_dc pg rfl (by assumption) (by simp) (fun r a' ha' hQ hr => ?_); obtain ⟨s, hs, rfl⟩ := hQ; clear hr; rw [Pg.c.eq_1 s]) | (refine acall_dc n4 rfl (by assumption) (by simp) (fun r a' ha' hQ hr => ?_); obtain ⟨x, hx1, hx2, rfl⟩ := hQ; clear hr) | (refine acall_dc (certf_dc h _ _ (by omega) (by omega) (by omega) (by omega) _) rfl (by assumption) (by simp) (fun r a' ha' hQ hr => ?_); obtain ⟨c, hc, rfl⟩ := hQ; clear hr; have wl := wce_wlv hs hc; have lv := leave_call s c wl; have hP := leave_shr hs hc.info; have hPn := (leaveS_w wl).2; generalize leaveS s c = P at *; generalize leaveK s c = k at *; rw [Pg.c.eq_1 s, Ce.c.eq_1 c, Pg.c.eq_1 P] at lv; rw [Ce.c.eq_1 c]) | refine acall_pure (lv) (by simp) ?_ | refine acall_pure (samez_call P (hP.1 (by assumption))) (by simp) ?_ | refine acall_pure (aw) (by simp) ?_ | skip) <;> ((repeat (refine Yz ?_)); (first | refine h9 _ _ (Ys ?_)); clear h9 K9))) | refine Y6 ?_ | (refine Y8 fun K hK => ?_) | refine Y9 ?_ | (apply hK; clear hK K) | refine Ya ?_ | (refine Yb rfl (fun hcnd => ?_) (fun hcnd => ?_) <;> (try simp at hcnd) <;> (try contradiction) <;> (try (exfalso; omega))) | refine Yc ?_ | (refine Yd ?_; simp only [X0, Nat.reduceBEq]) | (refine Ye ?_; refine Yf ?_) | (refine Yh ?_ ?_; (focus (simp; done)); refine Ys ?_) | refine Yg ?_ | (simp only [X0, Nat.reduceBEq]) | clear hK K)
    · simp
      exact .pure .bool
    have sh := hP.2 (by simpa using hcnd)
    have hsn := hs.names
    have q1 := sh.len
    have q2 := sh.expl
    have q3 := sh.map
    have q4 := sh.any
    have q5 := sh.expl0
    have q6 := sh.map0
    have q7 := sh.any0
    have hpm := sh.perm
    clear sh hP hcnd lv
    have hcp := Ce.c_pures c
    rw [← Ce.c.eq_1 c]
    generalize c.c = rc at *
    refine awp_loopU (α := Nat × Nat) (fun q => (some V.junk :: none :: some V.junk :: zN 2 (some V.junk :: none :: some V.junk :: some (V.int .i64 q.1) :: zS 86 []))) (fun q => [.live (dk l q.2), .live [nmV s.issuer, .int .i64 s.key.h, .str s.key.id, .str s.key.root, .bool s.lists, .int .i64 s.len, .int .i64 s.expl, .int .i64 s.map, .int .i64 s.any, sbsV s.names], .live rc, .live [nmV P.issuer, .int .i64 P.key.h, .str P.key.id, .str P.key.root, .bool P.lists, .int .i64 P.len, .int .i64 P.expl, .int .i64 P.map, .int .i64 P.any, sbsV P.names]]) (fun q => q.1 ≤ 4 ∧ q.2 ≤ l.length) (fun q => 4 - q.1) (0, a') ⟨by omega, by assumption⟩ ?_ ?_
    · dsimp only [ups, zN, zS]
      exact Yr [some 0, some 1, some 2, some 3] (by simp [rowsOver, rowRen_live, rens_pures, hcp])
    rintro ⟨i, b⟩ ⟨hi, hb⟩ KL hL
    dsimp only at hi hb
    dsimp only [ups, zN, zS]
    rcases (show i < 4 ∨ i = 4 by omega) with hi | rfl
    · repeat' (first | ((first | refine Yl rfl fun K9 h9 => ?_ | (refine Ym ?_ ?_; (focus (simp; done)); intro K9 h9)); simp (disch := (first | (simp; done) | omega | (simp; omega))); (try simp (disch := (first | omega | (simp; omega))) only [X7]); ((first | (refine acall_dc gen rfl (by assumption) (by simp) (fun r b' hb' hQ hr => ?_); obtain ⟨g, hg, rfl⟩ := hQ; clear hr; have e1 := rperms_call P.names g hg hPn; have e2 := rperms_call s.names g hg hsn; have hp := hpm g; rw [Gn.c.eq_1] at e1 e2; rw [Gn.c.eq_1]; generalize permsB P.names g = X at *; generalize permsB s.names g = Y at *; clear hg; cases X <;> cases Y <;> first | (exfalso; exact absurd (hp rfl) (by decide)) | clear hp) | refine acall_pure (e1) (by simp) ?_ | refine acall_pure (e2) (by simp) ?_ | skip) <;> ((repeat (refine Yz ?_)); (first | refine h9 _ _ (Yp ?_)); clear h9 K9))) | refine Yo ?_ | (refine Y8 fun K hK => ?_) | refine Yq ?_ | (apply hK; clear hK K) | refine Ya ?_ | (refine Yb rfl (fun hcnd => ?_) (fun hcnd => ?_) <;> (try simp at hcnd) <;> (try contradiction) <;> (try (exfalso; omega))) | refine Yc ?_ | (refine Yd ?_; simp only [X0, Nat.reduceBEq]) | (refine Ye ?_; refine Yf ?_) | (refine Yn ?_ ?_; (focus (simp; done)); refine Yp ?_) | refine Yg ?_ | (simp only [X0, Nat.reduceBEq]) | clear hK K)
      all_goals (
        refine hL (i + 1, b') _ _ ⟨by dsimp only; omega, by assumption⟩ (by dsimp only; omega) ?_
        exact Yr [some 0, some 1, some 2, some 3] (by simp [rowsOver, rowRen_live, rens_pures, hcp]))
    · repeat' (first | ((first | refine Yl rfl fun K9 h9 => ?_ | (refine Ym ?_ ?_; (focus (simp [q1, q2, q3, q4, q5, q6, q7]; done)); intro K9 h9)); simp (disch := (first | (simp; done) | omega | (simp; omega))) [q1, q2, q3, q4, q5, q6, q7]; (try simp (disch := (first | omega | (simp; omega))) only [X7]); ((first | refine acall_pure (aw) (by simp) ?_ | skip) <;> ((repeat (refine Yz ?_)); (first | refine h9 _ _ (Yp ?_)); clear h9 K9))) | refine Yo ?_ | (refine Y8 fun K hK => ?_) | refine Yq ?_ | (apply hK; clear hK K) | refine Ya ?_ | (refine Yb rfl (fun hcnd => ?_) (fun hcnd => ?_) <;> (try simp at hcnd) <;> (try contradiction) <;> (try (exfalso; omega))) | refine Yc ?_ | (refine Yd ?_; simp only [X0, Nat.reduceBEq]) | (refine Ye ?_; refine Yf ?_) | (refine Yn ?_ ?_; (focus (simp [q1, q2, q3, q4, q5, q6, q7]; done)); refine Yp ?_) | refine Yg ?_ | (simp only [X0, Nat.reduceBEq]) | clear hK K)
      simp
      exact .pure .bool
  · exact .bool
theorem stepShrinks_fits : ∀ xs, FitsAll Tryz.prog 8 Tryz.f3.params.toList xs → PCall Tryz.prog 3 xs (.bool true) := by
  intro xs h
  rw [show Tryz.f3.params.toList = [22] by kernel_rfl] at h
  obtain ⟨x1, xs, rfl, h1, h⟩ := fitsAll_cons h
  obtain rfl := fitsAll_nil h
  obtain ⟨l, hl, hr, rfl⟩ := fits_ints (e := 3) (by kernel_rfl) (by kernel_rfl) h1
  exact shrinks_call l ⟨hl, hr⟩
end Go.Proofs.YtcfmanhblonjeaaGreat

