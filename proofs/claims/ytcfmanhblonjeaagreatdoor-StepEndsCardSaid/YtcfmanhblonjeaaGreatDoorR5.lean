/-
  NAMES: general names of all kinds compared, by the reference: the same, one that stands for another.
  Conditions: none.
-/
import Derived.Test.YtcfmanhblonjeaaGreatDoorGe
import Derived.Test.YtcfmanhblonjeaaGreatDoorGf
import Derived.Test.YtcfmanhblonjeaaGreatDoorGp
import Derived.Test.YtcfmanhblonjeaaGreatDoorGq
import Derived.Test.YtcfmanhblonjeaaGreatDoorGg
import Derived.Test.YtcfmanhblonjeaaGreatDoorGh
import Derived.Test.YtcfmanhblonjeaaGreatDoorGj
import Derived.Test.YtcfmanhblonjeaaGreatDoorQ6
import Derived.Test.YtcfmanhblonjeaaGreatDoorQ7
import Derived.Test.YtcfmanhblonjeaaGreatDoorR1
import Derived.Test.YtcfmanhblonjeaaGreatDoorShelf
import Derived.Test.YtcfmanhblonjeaaGreatDoorTab
import Derived.Test.YtcfmanhblonjeaaGreatDoorGd
import Derived.Test.YtcfmanhblonjeaaGreatDoorGi
import Derived.Test.YtcfmanhblonjeaaGreatDoorVs30
set_option linter.all false
namespace Go.Proofs.YtcfmanhblonjeaaGreatDoor
open Go.VS Go.Stp
set_option linter.all false
set_option maxRecDepth 100000
set_option maxHeartbeats 8000000
attribute [local irreducible] arun arunD arunU AWp aend
theorem rgsamea_call (a b : Gn) (ha : WE a) (hb : WE b) : PCall Tryz.prog 58 [.agg a.c, .agg b.c] (.bool (sameGA a b)) := by
  have hm := rmatch_call a.name b.name ha.1 hb.1
  have ht := ha.2
  have ht2 := hb.2
  have m1 := Ho.rmail_call a.text (by omega)
  have m2 := Ho.rmail_call b.text (by omega)
  have m3 := Ho.rmmatch_call a.text b.text (by omega) (by omega)
  have m4 := Ho.alike_call a.text b.text (by omega) (by omega)
  rw [show a.c = [.int .i64 a.kind, .str a.text, nmV a.name] from rfl, show b.c = [.int .i64 b.kind, .str b.text, nmV b.name] from rfl]
  refine pcall_body Tryz.func58 rfl Tryz.call58 ?_ ?_
  rotate_left 1
  refine awp_slots (s' := (.agg [.int .i64 a.kind, .str a.text, nmV a.name] : V) :: (.agg [.int .i64 b.kind, .str b.text, nmV b.name] : V) :: zJ 51) rfl ?_; dsimp only [zJ]
  unfold sameGA
  by_cases h0 : a.kind = b.kind
  · rw [if_pos h0]
    by_cases k1 : a.kind = 1
    · rw [if_pos k1]
      have k1' : b.kind = 1 := by omega
      cases e1 : Ho.mailB a.text <;> cases e2 : Ho.mailB b.text <;> rw [e1] at m1 <;> rw [e2] at m2
      all_goals (
        repeat' (first | ((first | refine Y0 rfl fun K9 h9 => ?_ | (refine Y3 ?_ ?_; (focus (simp [k1, k1']; done)); intro K9 h9)); simp (disch := first | exact dd | fail) [k1, k1']; (try simp (disch := first | exact de | fail) only [X7]); ((first | refine Ap m1 ?_ | refine Ap m2 ?_ | refine Ap m3 ?_ | refine Ap m4 ?_ | skip) <;> ((repeat (refine Yz ?_)); (first | refine h9 _ _ (Ys ?_)); clear h9 K9))) | refine Y6 ?_ | (refine Y8 fun K hK => ?_) | refine Y9 ?_ | (apply hK; clear hK K) | refine Ya ?_ | (refine Yb rfl ?_ ?_ <;> intro hcnd <;> (try simp at hcnd) <;> try exact dc) | refine Yc ?_ | (refine Ye ?_; refine Yf ?_) | (refine Yh ?_ ?_; (focus (simp [k1, k1']; done)); refine Ys ?_) | refine Yg ?_ | (simp only [X0, Nat.reduceBEq]) | clear hK K)
        (try simp)
        exact .pure .bool)
    by_cases k2 : a.kind = 2
    · rw [if_neg k1, if_pos k2]
      have k1' : b.kind = 2 := by omega
      repeat' (first | ((first | refine Y0 rfl fun K9 h9 => ?_ | (refine Y3 ?_ ?_; (focus (simp [k2, k1']; done)); intro K9 h9)); simp (disch := first | exact dd | fail) [k2, k1']; (try simp (disch := first | exact de | fail) only [X7]); ((first | refine Ap m4 ?_ | skip) <;> ((repeat (refine Yz ?_)); (first | refine h9 _ _ (Ys ?_)); clear h9 K9))) | refine Y6 ?_ | (refine Y8 fun K hK => ?_) | refine Y9 ?_ | (apply hK; clear hK K) | refine Ya ?_ | (refine Yb rfl ?_ ?_ <;> intro hcnd <;> (try simp at hcnd) <;> try exact dc) | refine Yc ?_ | (refine Ye ?_; refine Yf ?_) | (refine Yh ?_ ?_; (focus (simp [k2, k1']; done)); refine Ys ?_) | refine Yg ?_ | (simp only [X0, Nat.reduceBEq]) | clear hK K)
      exact .pure .bool
    by_cases k4 : a.kind = 4
    · rw [if_neg k1, if_neg k2, if_pos k4]
      have k1' : b.kind = 4 := by omega
      repeat' (first | ((first | refine Y0 rfl fun K9 h9 => ?_ | (refine Y3 ?_ ?_; (focus (simp [k4, k1']; done)); intro K9 h9)); simp (disch := first | exact dd | fail) [k4, k1']; (try simp (disch := first | exact de | fail) only [X7]); ((first | refine Ap hm ?_ | skip) <;> ((repeat (refine Yz ?_)); (first | refine h9 _ _ (Ys ?_)); clear h9 K9))) | refine Y6 ?_ | (refine Y8 fun K hK => ?_) | refine Y9 ?_ | (apply hK; clear hK K) | refine Ya ?_ | (refine Yb rfl ?_ ?_ <;> intro hcnd <;> (try simp at hcnd) <;> try exact dc) | refine Yc ?_ | (refine Ye ?_; refine Yf ?_) | (refine Yh ?_ ?_; (focus (simp [k4, k1']; done)); refine Ys ?_) | refine Yg ?_ | (simp only [X0, Nat.reduceBEq]) | clear hK K)
      exact .pure .bool
    by_cases k7 : a.kind = 7
    · rw [if_neg k1, if_neg k2, if_neg k4, if_pos k7]
      have k1' : b.kind = 7 := by omega
      repeat' (first | ((first | refine Y0 rfl fun K9 h9 => ?_ | (refine Y3 ?_ ?_; (focus (simp [k7, k1']; done)); intro K9 h9)); simp (disch := first | exact dd | fail) [k7, k1']; (try simp (disch := first | exact de | fail) only [X7]); ((repeat (refine Yz ?_)); (first | refine h9 _ _ (Ys ?_)); clear h9 K9)) | refine Y6 ?_ | (refine Y8 fun K hK => ?_) | refine Y9 ?_ | (apply hK; clear hK K) | refine Ya ?_ | (refine Yb rfl ?_ ?_ <;> intro hcnd <;> (try simp at hcnd) <;> try exact dc) | refine Yc ?_ | (refine Ye ?_; refine Yf ?_) | (refine Yh ?_ ?_; (focus (simp [k7, k1']; done)); refine Ys ?_) | refine Yg ?_ | (simp only [X0, Nat.reduceBEq]) | clear hK K)
      exact .pure .bool
    · rw [if_neg k1, if_neg k2, if_neg k4, if_neg k7]
      repeat' (first | ((first | refine Y0 rfl fun K9 h9 => ?_ | (refine Y3 ?_ ?_; (focus (simp [h0, k1, k2, k4, k7]; done)); intro K9 h9)); simp (disch := first | exact dd | fail) [h0, k1, k2, k4, k7]; (try simp (disch := first | exact de | fail) only [X7]); ((repeat (refine Yz ?_)); (first | refine h9 _ _ (Ys ?_)); clear h9 K9)) | refine Y6 ?_ | (refine Y8 fun K hK => ?_) | refine Y9 ?_ | (apply hK; clear hK K) | refine Ya ?_ | (refine Yb rfl ?_ ?_ <;> intro hcnd <;> (try simp at hcnd) <;> try exact dc) | refine Yc ?_ | (refine Ye ?_; refine Yf ?_) | (refine Yh ?_ ?_; (focus (simp [h0, k1, k2, k4, k7]; done)); refine Ys ?_) | refine Yg ?_ | (simp only [X0, Nat.reduceBEq]) | clear hK K)
      exact .pure .bool
  · rw [if_neg h0]
    repeat' (first | ((first | refine Y0 rfl fun K9 h9 => ?_ | (refine Y3 ?_ ?_; (focus (simp [h0]; done)); intro K9 h9)); simp (disch := first | exact dd | fail) [h0]; (try simp (disch := first | exact de | fail) only [X7]); ((repeat (refine Yz ?_)); (first | refine h9 _ _ (Ys ?_)); clear h9 K9)) | refine Y6 ?_ | (refine Y8 fun K hK => ?_) | refine Y9 ?_ | (apply hK; clear hK K) | refine Ya ?_ | (refine Yb rfl ?_ ?_ <;> intro hcnd <;> (try simp at hcnd) <;> try exact dc) | refine Yc ?_ | (refine Ye ?_; refine Yf ?_) | (refine Yh ?_ ?_; (focus (simp [h0]; done)); refine Ys ?_) | refine Yg ?_ | (simp only [X0, Nat.reduceBEq]) | clear hK K)
    exact .pure .bool
  exact .bool
theorem rgmatch_call (a b : Gn) (ha : WE a) (hb : WE b) : PCall Tryz.prog 39 [.agg a.c, .agg b.c] (.bool (matchGA a b)) := by
  have hs := rgsamea_call a b ha hb
  have ht := ha.2
  have ht2 := hb.2
  have hd := Ho.rmatch_call a.text b.text (by omega) (by omega)
  rw [show a.c = [.int .i64 a.kind, .str a.text, nmV a.name] from rfl, show b.c = [.int .i64 b.kind, .str b.text, nmV b.name] from rfl] at *
  unfold matchGA
  refine pcall_body Tryz.func39 rfl Tryz.call39 ?_ ?_
  rotate_left 1
  refine awp_slots (s' := (.agg [.int .i64 a.kind, .str a.text, nmV a.name] : V) :: (.agg [.int .i64 b.kind, .str b.text, nmV b.name] : V) :: zJ 19) rfl ?_; dsimp only [zJ]
  by_cases k1 : a.kind = 2
  · by_cases k2 : b.kind = 2
    · rw [if_pos ⟨k1, k2⟩]
      repeat' (first | ((first | refine Yl rfl fun K9 h9 => ?_ | (refine Ym ?_ ?_; (focus (simp [k1, k2]; done)); intro K9 h9)); simp (disch := first | exact dd | fail) [k1, k2]; (try simp (disch := first | exact de | fail) only [X7]); ((first | refine Ap hd ?_ | refine Ap hs ?_ | skip) <;> ((repeat (refine Yz ?_)); (first | refine h9 _ _ (Yp ?_)); clear h9 K9))) | refine Yo ?_ | (refine Y8 fun K hK => ?_) | refine Yq ?_ | (apply hK; clear hK K) | (refine Yb rfl ?_ ?_ <;> intro hcnd <;> (try simp at hcnd) <;> try exact dc) | refine Yc ?_ | (refine Ye ?_; refine Yf ?_) | (refine Yn ?_ ?_; (focus (simp [k1, k2]; done)); refine Yp ?_) | refine Yg ?_ | (simp only [X0, Nat.reduceBEq]) | clear hK K)
      exact .pure .bool
    · rw [if_neg fun h => k2 h.2]
      rw [k1] at hs
      repeat' (first | ((first | refine Yl rfl fun K9 h9 => ?_ | (refine Ym ?_ ?_; (focus (simp [k1, k2]; done)); intro K9 h9)); simp (disch := first | exact dd | fail) [k1, k2]; (try simp (disch := first | exact de | fail) only [X7]); ((first | refine Ap hd ?_ | refine Ap hs ?_ | skip) <;> ((repeat (refine Yz ?_)); (first | refine h9 _ _ (Yp ?_)); clear h9 K9))) | refine Yo ?_ | (refine Y8 fun K hK => ?_) | refine Yq ?_ | (apply hK; clear hK K) | (refine Yb rfl ?_ ?_ <;> intro hcnd <;> (try simp at hcnd) <;> try exact dc) | refine Yc ?_ | (refine Ye ?_; refine Yf ?_) | (refine Yn ?_ ?_; (focus (simp [k1, k2]; done)); refine Yp ?_) | refine Yg ?_ | (simp only [X0, Nat.reduceBEq]) | clear hK K)
      exact .pure .bool
  · rw [if_neg fun h => k1 h.1]
    repeat' (first | ((first | refine Yl rfl fun K9 h9 => ?_ | (refine Ym ?_ ?_; (focus (simp [k1]; done)); intro K9 h9)); simp (disch := first | exact dd | fail) [k1]; (try simp (disch := first | exact de | fail) only [X7]); ((first | refine Ap hd ?_ | refine Ap hs ?_ | skip) <;> ((repeat (refine Yz ?_)); (first | refine h9 _ _ (Yp ?_)); clear h9 K9))) | refine Yo ?_ | (refine Y8 fun K hK => ?_) | refine Yq ?_ | (apply hK; clear hK K) | (refine Yb rfl ?_ ?_ <;> intro hcnd <;> (try simp at hcnd) <;> try exact dc) | refine Yc ?_ | (refine Ye ?_; refine Yf ?_) | (refine Yn ?_ ?_; (focus (simp [k1]; done)); refine Yp ?_) | refine Yg ?_ | (simp only [X0, Nat.reduceBEq]) | clear hK K)
    exact .pure .bool
  exact .bool
end Go.Proofs.YtcfmanhblonjeaaGreatDoor

