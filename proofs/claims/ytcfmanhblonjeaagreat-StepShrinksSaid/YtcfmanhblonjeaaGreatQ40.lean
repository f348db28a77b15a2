/-
  STEP: what the step laws share: the progress that a deck makes, what a leaf of it fulfils.
  Conditions: none.
-/
import Derived.Test.YtcfmanhblonjeaaGreatGe
import Derived.Test.YtcfmanhblonjeaaGreatGf
import Derived.Test.YtcfmanhblonjeaaGreatGg
import Derived.Test.YtcfmanhblonjeaaGreatGh
import Derived.Test.YtcfmanhblonjeaaGreatGj
import Derived.Test.YtcfmanhblonjeaaGreatGl
import Derived.Test.YtcfmanhblonjeaaGreatGk
import Derived.Test.YtcfmanhblonjeaaGreatQ16
import Derived.Test.YtcfmanhblonjeaaGreatQ17
import Derived.Test.YtcfmanhblonjeaaGreatQ18
import Derived.Test.YtcfmanhblonjeaaGreatQ19
import Derived.Test.YtcfmanhblonjeaaGreatQ20
import Derived.Test.YtcfmanhblonjeaaGreatQ25
import Derived.Test.YtcfmanhblonjeaaGreatQ26
import Derived.Test.YtcfmanhblonjeaaGreatQ27
import Derived.Test.YtcfmanhblonjeaaGreatQ28
import Derived.Test.YtcfmanhblonjeaaGreatQ29
import Derived.Test.YtcfmanhblonjeaaGreatTab
import Derived.Test.YtcfmanhblonjeaaGreatGd
import Derived.Test.YtcfmanhblonjeaaGreatGi
import Derived.Test.YtcfmanhblonjeaaGreatVs33
import Derived.Test.YtcfmanhblonjeaaGreatVs34
import Derived.Test.YtcfmanhblonjeaaGreatVs35
import Derived.Test.YtcfmanhblonjeaaGreatVs36
set_option linter.all false
namespace Go.Proofs.YtcfmanhblonjeaaGreat
open Go.VS Go.Stp
set_option linter.all false
set_option maxRecDepth 100000
set_option maxHeartbeats 16000000
theorem wlv_pg' {s : Pg} (w : WPg s) (c : Ce) (h1 : WN c.subject) (h2 : WN c.issuer) (h3 : c.info.maps.length ≤ 65536) (h4 : WS c.info.cons) : WLv s c := by
  have a1 := w.len
  have a2 := w.expl
  have a3 := w.map
  have a4 := w.any
  have a5 := w.few
  exact ⟨h1, h2, h3, w.names, by omega, h4, by unfold I64; omega, by unfold I64; omega, by unfold I64; omega, by unfold I64; omega⟩
theorem progress_dc {l : List Int} (h : DkOk l) : DC Tryz.prog 5 [] l (fun r => ∃ s : Pg, WPg s ∧ r = .agg s.c) := dc_mut fun a ha => by
  obtain ⟨s, a', w, h1, h2⟩ := progress_call l a h.len ha h.rng
  exact ⟨a', _, h1, ⟨s, w, rfl⟩, by simp, h2⟩
theorem wce_wn {f t : Int} {c : Ce} (w : WCe f t c) : WN c.subject ∧ WN c.issuer := by
  rw [w.subject, w.issuer]
  exact ⟨authN_wn _, authN_wn _⟩
theorem wce_wlv {f t : Int} {s : Pg} {c : Ce} (ws : WPg s) (w : WCe f t c) : WLv s c :=
  wlv_pg' ws c (wce_wn w).1 (wce_wn w).2 (by have := w.info.maps; omega) w.info.cons
theorem leaveS_w {s : Pg} {c : Ce} (w : WLv s c) : WN (leaveS s c).issuer ∧ WSs (leaveS s c).names := by
  unfold leaveS
  split
  · refine ⟨w.sub, ?_⟩
    unfold leaveP
    dsimp only
    have hf := w.few
    split
    · refine ⟨by simp; omega, fun x hx => ?_⟩
      simp at hx
      rcases hx with hx | rfl
      · exact w.names.2 x hx
      · exact w.cons
    · exact w.names
  · exact ⟨⟨by simp [zeroPg], fun x h => by simp [zeroPg] at h⟩, ⟨by simp [zeroPg], fun x h => by simp [zeroPg] at h⟩⟩
end Go.Proofs.YtcfmanhblonjeaaGreat

