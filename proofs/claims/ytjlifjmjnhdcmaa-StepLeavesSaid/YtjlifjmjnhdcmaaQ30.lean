/-
  STEP: StepLeaves.
  Conditions: none.
-/
import Derived.Test.YtjlifjmjnhdcmaaQ29
import Derived.Test.YtjlifjmjnhdcmaaQ23
import Derived.Test.YtjlifjmjnhdcmaaQ20
import Derived.Test.YtjlifjmjnhdcmaaGd
set_option linter.all false
namespace Go.Proofs.Ytjlifjmjnhdcmaa
open Go.VS Go.Stp
set_option linter.all false
set_option maxRecDepth 100000
set_option maxHeartbeats 16000000
theorem wlv_pg' {s : Pg} (w : WPg s) (c : Ce) (h1 : WN c.subject) (h2 : WN c.issuer) (h3 : c.info.maps.length ≤ 65536) (h4 : WS c.info.cons) : WLv s c := by
  have a1 := w.len
  have a2 := w.expl
  have a3 := w.map
  have a4 := w.any
  have a5 := w.few
  exact ⟨h1, h2, h3, w.names, by omega, h4, by unfold I64; omega, by unfold I64; omega, by unfold I64; omega, by unfold I64; omega⟩
theorem progress_dc {l : List Int} (h : DkOk l) : DC Try.prog 15 [] l (fun r => ∃ s : Pg, WPg s ∧ r = .agg s.c) := dc_mut fun a ha => by
  obtain ⟨s, a', w, h1, h2⟩ := progress_call l a h.len ha h.rng
  exact ⟨a', _, h1, ⟨s, w, rfl⟩, by simp, h2⟩
theorem wce_wn {f t : Int} {c : Ce} (w : WCe f t c) : WN c.subject ∧ WN c.issuer := by
  rw [w.subject, w.issuer]
  exact ⟨authN_wn _, authN_wn _⟩
theorem wce_wlv {f t : Int} {s : Pg} {c : Ce} (ws : WPg s) (w : WCe f t c) : WLv s c :=
  wlv_pg' ws c (wce_wn w).1 (wce_wn w).2 (by have := w.info.maps; omega) w.info.cons
theorem leaveS_w {s : Pg} {c : Ce} (w : WLv s c) : WN (leaveS s c).issuer ∧ WSs (leaveS s c).names := by
  unfold leaveS
  split
  · refine ⟨w.sub, ?_⟩
    unfold leaveP
    dsimp only
    have hf := w.few
    split
    · refine ⟨by simp; omega, fun x hx => ?_⟩
      simp at hx
      rcases hx with hx | rfl
      · exact w.names.2 x hx
      · exact w.cons
    · exact w.names
  · exact ⟨⟨by simp [zeroPg], fun x h => by simp [zeroPg] at h⟩, ⟨by simp [zeroPg], fun x h => by simp [zeroPg] at h⟩⟩
attribute [local irreducible] arun arunD arunU AWp aend bits
theorem leaves_call (l : List Int) (h : DkOk l) : PCall Try.prog 4 [.sl l.length (l.map (V.int .i64))] (.bool true) := by
  have aw := awake_call
  have n4 : DC Try.prog 10 [.int .i64 4] l (IntQ 4) := next_dc h 4 (by omega) (by omega)
  have pg := progress_dc h
  have ha0 : 0 ≤ l.length := by omega
  refine pcall_body Try.func4 rfl Try.call4 ?_ ?_
  rotate_left 1
  refine awp_slots (s' := [(.sl l.length (l.map (V.int .i64)) : V), .junk, .junk, .junk, .junk, .junk, .junk, .junk, .junk, .junk, .junk, .junk, .junk, .junk, .junk, .junk, .junk, .junk, .junk, .junk, .junk, .junk, .junk, .junk, .junk, .junk, .junk, .junk, .junk, .junk, .junk, .junk, .junk, .junk, .junk, .junk, .junk, .junk, .junk, .junk, .junk, .junk, .junk, .junk, .junk, .junk]) rfl ?_
  · repeat' (first | ((first | refine Y0 rfl fun K9 h9 => ?_ | (refine Y3 ?_ ?_; (focus (simp; done)); intro K9 h9)); simp (disch := (first | (simp; done) | omega | (simp; omega))); (try simp (disch := (first | omega | (simp; omega))) only [X7, X8, X9, Xa, Xb, Xc]); ((first | refine acall_new (deck_call l) (dk_pures _ _) (by simp) ?_ | (refine acall_dc pg rfl (by assumption) (by simp) (fun r a' ha' hQ hr => ?_); obtain ⟨s, hs, rfl⟩ := hQ; clear hr; rw [Pg.c.eq_1 s]) | (refine acall_dc n4 rfl (by assumption) (by simp) (fun r a' ha' hQ hr => ?_); obtain ⟨x, hx1, hx2, rfl⟩ := hQ; clear hr) | (refine acall_dc (certf_dc h _ _ (by omega) (by omega) (by omega) (by omega) _) rfl (by assumption) (by simp) (fun r a' ha' hQ hr => ?_); obtain ⟨c, hc, rfl⟩ := hQ; clear hr; have wl := wce_wlv hs hc; have lv := leave_call s c wl; have rl := rleave_call s c wl; have hsm := same_call (leaveS s c) (leaveS_w wl).1 (leaveS_w wl).2; generalize leaveS s c = P at *; generalize leaveK s c = k at *; rw [Pg.c.eq_1 s, Ce.c.eq_1 c, Pg.c.eq_1 P] at lv rl; rw [Pg.c.eq_1 P] at hsm; rw [Ce.c.eq_1 c]) | refine acall_pure (lv) (by simp) ?_ | refine acall_pure (rl) (by simp) ?_ | refine acall_pure (hsm) (by simp) ?_ | refine acall_pure (aw) (by simp) ?_ | skip) <;> ((repeat (refine Yz ?_)); (first | refine h9 _ _ (Ys ?_)); clear h9 K9))) | refine Y6 ?_ | (refine Y8 fun K hK => ?_) | refine Y9 ?_ | (apply hK; clear hK K) | (refine Ye ?_; refine Yf ?_) | (refine Yh ?_ ?_; (focus (simp; done)); refine Ys ?_) | refine Yg ?_ | (simp only [X0, X1, X2, X3, X4, X5, X6, Nat.reduceBEq]) | (clear hK K; first | (apply hK; clear hK K) | (clear hK K; first | (apply hK; clear hK K) | (clear hK K; first | (apply hK; clear hK K) | (clear hK K; apply hK; clear hK K)))))
    simp
    exact .pure .bool
  · exact .bool
theorem stepLeaves_fits : ∀ xs, FitsAll Try.prog 8 Try.f4.params.toList xs → PCall Try.prog 4 xs (.bool true) := by
  intro xs h
  rw [show Try.f4.params.toList = [22] by kernel_rfl] at h
  obtain ⟨x1, xs, rfl, h1, h⟩ := fitsAll_cons h
  obtain rfl := fitsAll_nil h
  obtain ⟨l, hl, hr, rfl⟩ := fits_ints (e := 3) (by kernel_rfl) (by kernel_rfl) h1
  exact leaves_call l ⟨hl, hr⟩
end Go.Proofs.Ytjlifjmjnhdcmaa
