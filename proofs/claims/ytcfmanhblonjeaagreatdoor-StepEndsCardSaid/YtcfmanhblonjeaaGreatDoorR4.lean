/-
  NAMES: general names of all kinds compared.
  Conditions: none.
-/
import Derived.Test.YtcfmanhblonjeaaGreatDoorGe
import Derived.Test.YtcfmanhblonjeaaGreatDoorGf
import Derived.Test.YtcfmanhblonjeaaGreatDoorGp
import Derived.Test.YtcfmanhblonjeaaGreatDoorGq
import Derived.Test.YtcfmanhblonjeaaGreatDoorGg
import Derived.Test.YtcfmanhblonjeaaGreatDoorGh
import Derived.Test.YtcfmanhblonjeaaGreatDoorP1
import Derived.Test.YtcfmanhblonjeaaGreatDoorP2
import Derived.Test.YtcfmanhblonjeaaGreatDoorGj
import Derived.Test.YtcfmanhblonjeaaGreatDoorQ6
import Derived.Test.YtcfmanhblonjeaaGreatDoorQ7
import Derived.Test.YtcfmanhblonjeaaGreatDoorGl
import Derived.Test.YtcfmanhblonjeaaGreatDoorQ16
import Derived.Test.YtcfmanhblonjeaaGreatDoorQ17
import Derived.Test.YtcfmanhblonjeaaGreatDoorQ18
import Derived.Test.YtcfmanhblonjeaaGreatDoorQ19
import Derived.Test.YtcfmanhblonjeaaGreatDoorQ25
import Derived.Test.YtcfmanhblonjeaaGreatDoorQ26
import Derived.Test.YtcfmanhblonjeaaGreatDoorQ27
import Derived.Test.YtcfmanhblonjeaaGreatDoorR1
import Derived.Test.YtcfmanhblonjeaaGreatDoorShelf
import Derived.Test.YtcfmanhblonjeaaGreatDoorTab
import Derived.Test.YtcfmanhblonjeaaGreatDoorGd
import Derived.Test.YtcfmanhblonjeaaGreatDoorGi
import Derived.Test.YtcfmanhblonjeaaGreatDoorVs30
import Derived.Test.YtcfmanhblonjeaaGreatDoorVs33
import Derived.Test.YtcfmanhblonjeaaGreatDoorVs34
import Derived.Test.YtcfmanhblonjeaaGreatDoorVs35
set_option linter.all false
namespace Go.Proofs.YtcfmanhblonjeaaGreatDoor
open Go.VS Go.Stp
set_option linter.all false
set_option maxRecDepth 100000
set_option maxHeartbeats 8000000
theorem lowS_low (l : List UInt8) : lowS l = Go.Hst.low l := by
  unfold lowS Go.Hst.low
  refine List.map_congr_left fun c _ => ?_
  unfold lowF Go.Hst.lowB
  split
  · apply UInt8.toNat_inj.1
    simp
  · rfl
attribute [local irreducible] arun arunD arunU AWp aend
theorem gsmall2_call (l : List UInt8) (hl : l.length ≤ 4294967280) : PCall Tryz.prog 78 [.str l] (.str (Go.Hst.low l)) := by
  rw [← lowS_low]
  exact gsmall_call l hl
theorem gsamea_call (a b : Gn) (ha : WE a) (hb : WE b) : PCall Tryz.prog 56 [.agg a.c, .agg b.c] (.bool (sameGA a b)) := by
  have hm := dmatch_call a.name b.name ha.1 hb.1
  have ht := ha.2
  have ht2 := hb.2
  have m1 := Ho.mail_call a.text (by omega)
  have m2 := Ho.mail_call b.text (by omega)
  have m3 := Ho.mmatch_call a.text b.text (by omega) (by omega)
  rw [show a.c = [.int .i64 a.kind, .str a.text, nmV a.name] from rfl, show b.c = [.int .i64 b.kind, .str b.text, nmV b.name] from rfl]
  refine pcall_body Tryz.func56 rfl Tryz.call56 ?_ ?_
  rotate_left 1
  refine awp_slots (s' := (.agg [.int .i64 a.kind, .str a.text, nmV a.name] : V) :: (.agg [.int .i64 b.kind, .str b.text, nmV b.name] : V) :: zJ 56) rfl ?_; dsimp only [zJ]
  unfold sameGA Ho.eqB
  by_cases h0 : a.kind = b.kind
  · rw [if_pos h0]
    by_cases k1 : a.kind = 1
    · rw [if_pos k1]
      have k1' : b.kind = 1 := by omega
      have e : ofK 1 = 0 := rfl
      cases e1 : Ho.mailB a.text <;> cases e2 : Ho.mailB b.text <;> rw [e1] at m1 <;> rw [e2] at m2
      all_goals (
        repeat' (first | ((first | refine Y0 rfl fun K9 h9 => ?_ | refine Y1 rfl rfl fun K9 h9 => ?_ | refine Y2 rfl rfl fun K9 h9 => ?_ | (refine Y3 ?_ ?_; (focus (simp [k1, k1', e]; done)); intro K9 h9) | ((first | refine Y4 rfl ?_ ?_ | refine Y5 rfl ?_ ?_); (focus (simp [k1, k1', e]; done)); intro K9 h9)); simp (disch := first | exact dd | fail) [k1, k1', e]; (try simp (disch := first | exact de | fail) only [X7]); ((first | refine Ap (gof_call _) ?_ | refine Ap m1 ?_ | refine Ap m2 ?_ | refine Ap m3 ?_ | refine Ap (gsmall2_call _ (by omega)) ?_ | refine ⟨_, gsmall2_call _ (by omega), ?_⟩ | skip) <;> ((repeat (refine Yz ?_)); (first | refine h9 _ _ (Ys ?_) | refine h9 _ _ (Yt ?_)); clear h9 K9))) | refine Y6 ?_ | refine Y7 ?_ | (refine Y8 fun K hK => ?_) | refine Y9 ?_ | (apply hK; clear hK K) | ((first | refine Yk (m := 0) (by decide +kernel) [0, 0, 1, 0, 0, 1, 0, 0] (by kernel_rfl) (by decide +kernel) ?_ | refine Yk (m := 0) (by decide +kernel) [] (by kernel_rfl) (by decide +kernel) ?_); simp only [List.replicate, XL]) | refine Ya ?_ | (refine Yb rfl ?_ ?_ <;> intro hcnd <;> (try simp at hcnd) <;> try exact dc) | refine Yc ?_ | (refine Ye ?_; refine Yf ?_) | (refine Yh ?_ ?_; (focus (simp [k1, k1', e]; done)); refine Ys ?_) | ((first | refine Yi rfl ?_ ?_ | refine Yj rfl ?_ ?_); (focus (simp [k1, k1', e]; done)); refine Yt ?_) | refine Yg ?_ | (simp only [X0, Nat.reduceBEq]) | clear hK K)
        (try simp)
        exact .pure .bool)
    by_cases k2 : a.kind = 2
    · rw [if_neg k1, if_pos k2]
      have k1' : b.kind = 2 := by omega
      have e : ofK 2 = 1 := rfl
      repeat' (first | ((first | refine Y0 rfl fun K9 h9 => ?_ | refine Y1 rfl rfl fun K9 h9 => ?_ | refine Y2 rfl rfl fun K9 h9 => ?_ | (refine Y3 ?_ ?_; (focus (simp [k2, k1', e]; done)); intro K9 h9) | ((first | refine Y4 rfl ?_ ?_ | refine Y5 rfl ?_ ?_); (focus (simp [k2, k1', e]; done)); intro K9 h9)); simp (disch := first | exact dd | fail) [k2, k1', e]; (try simp (disch := first | exact de | fail) only [X7]); ((first | refine Ap (gof_call _) ?_ | refine Ap (gsmall2_call _ (by omega)) ?_ | refine ⟨_, gsmall2_call _ (by omega), ?_⟩ | skip) <;> ((repeat (refine Yz ?_)); (first | refine h9 _ _ (Ys ?_) | refine h9 _ _ (Yt ?_)); clear h9 K9))) | refine Y6 ?_ | refine Y7 ?_ | (refine Y8 fun K hK => ?_) | refine Y9 ?_ | (apply hK; clear hK K) | ((first | refine Yk (m := 0) (by decide +kernel) [0, 0, 1, 0, 0, 1, 0, 0] (by kernel_rfl) (by decide +kernel) ?_ | refine Yk (m := 0) (by decide +kernel) [] (by kernel_rfl) (by decide +kernel) ?_); simp only [List.replicate, XL]) | refine Ya ?_ | (refine Yb rfl ?_ ?_ <;> intro hcnd <;> (try simp at hcnd) <;> try exact dc) | refine Yc ?_ | (refine Ye ?_; refine Yf ?_) | (refine Yh ?_ ?_; (focus (simp [k2, k1', e]; done)); refine Ys ?_) | ((first | refine Yi rfl ?_ ?_ | refine Yj rfl ?_ ?_); (focus (simp [k2, k1', e]; done)); refine Yt ?_) | refine Yg ?_ | (simp only [X0, Nat.reduceBEq]) | clear hK K)
      (try simp)
      exact .pure .bool
    by_cases k4 : a.kind = 4
    · rw [if_neg k1, if_neg k2, if_pos k4]
      have k1' : b.kind = 4 := by omega
      have e : ofK 4 = 2 := rfl
      repeat' (first | ((first | refine Y0 rfl fun K9 h9 => ?_ | refine Y1 rfl rfl fun K9 h9 => ?_ | refine Y2 rfl rfl fun K9 h9 => ?_ | (refine Y3 ?_ ?_; (focus (simp [k4, k1', e]; done)); intro K9 h9) | ((first | refine Y4 rfl ?_ ?_ | refine Y5 rfl ?_ ?_); (focus (simp [k4, k1', e]; done)); intro K9 h9)); simp (disch := first | exact dd | fail) [k4, k1', e]; (try simp (disch := first | exact de | fail) only [X7]); ((first | refine Ap (gof_call _) ?_ | refine Ap hm ?_ | skip) <;> ((repeat (refine Yz ?_)); (first | refine h9 _ _ (Ys ?_) | refine h9 _ _ (Yt ?_)); clear h9 K9))) | refine Y6 ?_ | refine Y7 ?_ | (refine Y8 fun K hK => ?_) | refine Y9 ?_ | (apply hK; clear hK K) | ((first | refine Yk (m := 0) (by decide +kernel) [] (by kernel_rfl) (by decide +kernel) ?_); simp only [List.replicate, XL]) | refine Ya ?_ | (refine Yb rfl ?_ ?_ <;> intro hcnd <;> (try simp at hcnd) <;> try exact dc) | refine Yc ?_ | (refine Ye ?_; refine Yf ?_) | (refine Yh ?_ ?_; (focus (simp [k4, k1', e]; done)); refine Ys ?_) | ((first | refine Yi rfl ?_ ?_ | refine Yj rfl ?_ ?_); (focus (simp [k4, k1', e]; done)); refine Yt ?_) | refine Yg ?_ | (simp only [X0, Nat.reduceBEq]) | clear hK K)
      exact .pure .bool
    by_cases k7 : a.kind = 7
    · rw [if_neg k1, if_neg k2, if_neg k4, if_pos k7]
      have k1' : b.kind = 7 := by omega
      have e : ofK 7 = 3 := rfl
      repeat' (first | ((first | refine Y0 rfl fun K9 h9 => ?_ | refine Y1 rfl rfl fun K9 h9 => ?_ | refine Y2 rfl rfl fun K9 h9 => ?_ | (refine Y3 ?_ ?_; (focus (simp [k7, k1', e]; done)); intro K9 h9) | ((first | refine Y4 rfl ?_ ?_ | refine Y5 rfl ?_ ?_); (focus (simp [k7, k1', e]; done)); intro K9 h9)); simp (disch := first | exact dd | fail) [k7, k1', e]; (try simp (disch := first | exact de | fail) only [X7]); ((first | refine Ap (gof_call _) ?_ | skip) <;> ((repeat (refine Yz ?_)); (first | refine h9 _ _ (Ys ?_) | refine h9 _ _ (Yt ?_)); clear h9 K9))) | refine Y6 ?_ | refine Y7 ?_ | (refine Y8 fun K hK => ?_) | refine Y9 ?_ | (apply hK; clear hK K) | ((first | refine Yk (m := 0) (by decide +kernel) [] (by kernel_rfl) (by decide +kernel) ?_); simp only [List.replicate, XL]) | refine Ya ?_ | (refine Yb rfl ?_ ?_ <;> intro hcnd <;> (try simp at hcnd) <;> try exact dc) | refine Yc ?_ | (refine Ye ?_; refine Yf ?_) | (refine Yh ?_ ?_; (focus (simp [k7, k1', e]; done)); refine Ys ?_) | ((first | refine Yi rfl ?_ ?_ | refine Yj rfl ?_ ?_); (focus (simp [k7, k1', e]; done)); refine Yt ?_) | refine Yg ?_ | (simp only [X0, Nat.reduceBEq]) | clear hK K)
      exact .pure .bool
    · rw [if_neg k1, if_neg k2, if_neg k4, if_neg k7]
      have e : ofK a.kind = 4 := by unfold ofK; rw [if_neg k1, if_neg k2, if_neg k4, if_neg k7]
      have e' : ofK b.kind = 4 := by rw [← h0]; exact e
      repeat' (first | ((first | refine Y0 rfl fun K9 h9 => ?_ | refine Y1 rfl rfl fun K9 h9 => ?_ | refine Y2 rfl rfl fun K9 h9 => ?_ | (refine Y3 ?_ ?_; (focus (simp [h0, e, e']; done)); intro K9 h9) | ((first | refine Y4 rfl ?_ ?_ | refine Y5 rfl ?_ ?_); (focus (simp [h0, e, e']; done)); intro K9 h9)); simp (disch := first | exact dd | fail) [h0, e, e']; (try simp (disch := first | exact de | fail) only [X7]); ((first | refine Ap (gof_call _) ?_ | skip) <;> ((repeat (refine Yz ?_)); (first | refine h9 _ _ (Ys ?_) | refine h9 _ _ (Yt ?_)); clear h9 K9))) | refine Y6 ?_ | refine Y7 ?_ | (refine Y8 fun K hK => ?_) | refine Y9 ?_ | (apply hK; clear hK K) | ((first | refine Yk (m := 0) (by decide +kernel) [] (by kernel_rfl) (by decide +kernel) ?_); simp only [List.replicate, XL]) | refine Ya ?_ | (refine Yb rfl ?_ ?_ <;> intro hcnd <;> (try simp at hcnd) <;> try exact dc) | refine Yc ?_ | (refine Ye ?_; refine Yf ?_) | (refine Yh ?_ ?_; (focus (simp [h0, e, e']; done)); refine Ys ?_) | ((first | refine Yi rfl ?_ ?_ | refine Yj rfl ?_ ?_); (focus (simp [h0, e, e']; done)); refine Yt ?_) | refine Yg ?_ | (simp only [X0, Nat.reduceBEq]) | clear hK K)
      exact .pure .bool
  · rw [if_neg h0]
    repeat' (first | ((first | refine Y0 rfl fun K9 h9 => ?_ | refine Y1 rfl rfl fun K9 h9 => ?_ | refine Y2 rfl rfl fun K9 h9 => ?_ | (refine Y3 ?_ ?_; (focus (simp [h0]; done)); intro K9 h9) | ((first | refine Y4 rfl ?_ ?_ | refine Y5 rfl ?_ ?_); (focus (simp [h0]; done)); intro K9 h9)); simp (disch := first | exact dd | fail) [h0]; (try simp (disch := first | exact de | fail) only [X7]); ((repeat (refine Yz ?_)); (first | refine h9 _ _ (Ys ?_) | refine h9 _ _ (Yt ?_)); clear h9 K9)) | refine Y6 ?_ | refine Y7 ?_ | (refine Y8 fun K hK => ?_) | refine Y9 ?_ | (apply hK; clear hK K) | ((first | refine Yk (m := 0) (by decide +kernel) [] (by kernel_rfl) (by decide +kernel) ?_); simp only [List.replicate, XL]) | refine Ya ?_ | (refine Yb rfl ?_ ?_ <;> intro hcnd <;> (try simp at hcnd) <;> try exact dc) | refine Yc ?_ | (refine Ye ?_; refine Yf ?_) | (refine Yh ?_ ?_; (focus (simp [h0]; done)); refine Ys ?_) | ((first | refine Yi rfl ?_ ?_ | refine Yj rfl ?_ ?_); (focus (simp [h0]; done)); refine Yt ?_) | refine Yg ?_ | (simp only [X0, Nat.reduceBEq]) | clear hK K)
    exact .pure .bool
  exact .bool
end Go.Proofs.YtcfmanhblonjeaaGreatDoor

