/-
  SCOPE: when two general names are the same (names of hosts and directories).
  Conditions: none.
-/
import Derived.Test.YtcfmanhblonjeaaGreatDoorGe
import Derived.Test.YtcfmanhblonjeaaGreatDoorGf
import Derived.Test.YtcfmanhblonjeaaGreatDoorGg
import Derived.Test.YtcfmanhblonjeaaGreatDoorGh
import Derived.Test.YtcfmanhblonjeaaGreatDoorP1
import Derived.Test.YtcfmanhblonjeaaGreatDoorGj
import Derived.Test.YtcfmanhblonjeaaGreatDoorQ6
import Derived.Test.YtcfmanhblonjeaaGreatDoorQ7
import Derived.Test.YtcfmanhblonjeaaGreatDoorGl
import Derived.Test.YtcfmanhblonjeaaGreatDoorQ16
import Derived.Test.YtcfmanhblonjeaaGreatDoorQ17
import Derived.Test.YtcfmanhblonjeaaGreatDoorQ18
import Derived.Test.YtcfmanhblonjeaaGreatDoorQ19
import Derived.Test.YtcfmanhblonjeaaGreatDoorQ25
import Derived.Test.YtcfmanhblonjeaaGreatDoorQ26
import Derived.Test.YtcfmanhblonjeaaGreatDoorQ27
import Derived.Test.YtcfmanhblonjeaaGreatDoorTab
import Derived.Test.YtcfmanhblonjeaaGreatDoorGd
import Derived.Test.YtcfmanhblonjeaaGreatDoorGi
import Derived.Test.YtcfmanhblonjeaaGreatDoorVs33
import Derived.Test.YtcfmanhblonjeaaGreatDoorVs34
import Derived.Test.YtcfmanhblonjeaaGreatDoorVs35
set_option linter.all false
namespace Go.Stp
open Go.VS
def ofK (k : Int) : Int := if k = 1 then 0 else if k = 2 then 1 else if k = 4 then 2 else if k = 7 then 3 else 4
end Go.Stp
namespace Go.Proofs.YtcfmanhblonjeaaGreatDoor
open Go.VS Go.Stp
set_option linter.all false
set_option maxRecDepth 100000
set_option maxHeartbeats 8000000
attribute [local irreducible] arun arunD arunU AWp aend
theorem gof_call (k : Int) : PCall Tryz.prog 75 [.int .i64 k] (.int .i64 (ofK k)) := by
  refine pcall_body Tryz.func75 rfl Tryz.call75 ?_ ?_
  rotate_left 1
  refine awp_slots (s' := (.int .i64 k : V) :: zJ 11) rfl ?_; dsimp only [zJ]
  unfold ofK
  by_cases h1 : k = 1
  · rw [if_pos h1]
    repeat' (first | (refine Y0 rfl fun K9 h9 => ?_; simp (disch := first | exact dd | fail) [h1]; (try simp (disch := first | exact de | fail) only [X7]); ((repeat (refine Yz ?_)); (first | refine h9 _ _ (Ys ?_)); clear h9 K9)) | refine Y6 ?_ | (refine Y8 fun K hK => ?_) | refine Y9 ?_ | (apply hK; clear hK K) | refine Ya ?_ | (refine Yb rfl ?_ ?_ <;> intro hcnd <;> (try simp at hcnd) <;> try exact dc) | refine Yc ?_ | (refine Ye ?_; refine Yf ?_) | refine Yg ?_ | (simp only [X0, Nat.reduceBEq]) | clear hK K)
    exact .pure .int
  rw [if_neg h1]
  by_cases h2 : k = 2
  · rw [if_pos h2]
    repeat' (first | (refine Y0 rfl fun K9 h9 => ?_; simp (disch := first | exact dd | fail) [h1, h2]; (try simp (disch := first | exact de | fail) only [X7]); ((repeat (refine Yz ?_)); (first | refine h9 _ _ (Ys ?_)); clear h9 K9)) | refine Y6 ?_ | (refine Y8 fun K hK => ?_) | refine Y9 ?_ | (apply hK; clear hK K) | refine Ya ?_ | (refine Yb rfl ?_ ?_ <;> intro hcnd <;> (try simp at hcnd) <;> try exact dc) | refine Yc ?_ | (refine Ye ?_; refine Yf ?_) | refine Yg ?_ | (simp only [X0, Nat.reduceBEq]) | clear hK K)
    exact .pure .int
  rw [if_neg h2]
  by_cases h3 : k = 4
  · rw [if_pos h3]
    repeat' (first | (refine Y0 rfl fun K9 h9 => ?_; simp (disch := first | exact dd | fail) [h1, h2, h3]; (try simp (disch := first | exact de | fail) only [X7]); ((repeat (refine Yz ?_)); (first | refine h9 _ _ (Ys ?_)); clear h9 K9)) | refine Y6 ?_ | (refine Y8 fun K hK => ?_) | refine Y9 ?_ | (apply hK; clear hK K) | refine Ya ?_ | (refine Yb rfl ?_ ?_ <;> intro hcnd <;> (try simp at hcnd) <;> try exact dc) | refine Yc ?_ | (refine Ye ?_; refine Yf ?_) | refine Yg ?_ | (simp only [X0, Nat.reduceBEq]) | clear hK K)
    exact .pure .int
  rw [if_neg h3]
  by_cases h4 : k = 7
  · rw [if_pos h4]
    repeat' (first | (refine Y0 rfl fun K9 h9 => ?_; simp (disch := first | exact dd | fail) [h1, h2, h3, h4]; (try simp (disch := first | exact de | fail) only [X7]); ((repeat (refine Yz ?_)); (first | refine h9 _ _ (Ys ?_)); clear h9 K9)) | refine Y6 ?_ | (refine Y8 fun K hK => ?_) | refine Y9 ?_ | (apply hK; clear hK K) | refine Ya ?_ | (refine Yb rfl ?_ ?_ <;> intro hcnd <;> (try simp at hcnd) <;> try exact dc) | refine Yc ?_ | (refine Ye ?_; refine Yf ?_) | refine Yg ?_ | (simp only [X0, Nat.reduceBEq]) | clear hK K)
    exact .pure .int
  rw [if_neg h4]
  repeat' (first | (refine Y0 rfl fun K9 h9 => ?_; simp (disch := first | exact dd | fail) [h1, h2, h3, h4]; (try simp (disch := first | exact de | fail) only [X7]); ((repeat (refine Yz ?_)); (first | refine h9 _ _ (Ys ?_)); clear h9 K9)) | refine Y6 ?_ | (refine Y8 fun K hK => ?_) | refine Y9 ?_ | (apply hK; clear hK K) | refine Ya ?_ | (refine Yb rfl ?_ ?_ <;> intro hcnd <;> (try simp at hcnd) <;> try exact dc) | refine Yc ?_ | (refine Ye ?_; refine Yf ?_) | refine Yg ?_ | (simp only [X0, Nat.reduceBEq]) | clear hK K)
  exact .pure .int
  exact .int

theorem gsmall_call (l : List UInt8) (hl : l.length ≤ 4294967280) : PCall Tryz.prog 78 [.str l] (.str (lowS l)) := by
  refine pcall_body Tryz.func78 rfl Tryz.call78 ?_ ?_
  rotate_left 1
  refine awp_slots (s' := (.str l : V) :: zJ 29) rfl ?_; dsimp only [zJ]
  repeat' (first | ((first | refine Y0 rfl fun K9 h9 => ?_ | (refine Y3 ?_ ?_; (focus (simp; done)); intro K9 h9)); simp (disch := first | exact dd | fail); (try simp (disch := first | exact de | fail) only [X7]); ((repeat (refine Yz ?_)); (first | refine h9 _ _ (Ys ?_)); clear h9 K9)) | refine Y6 ?_ | (refine Y8 fun K hK => ?_) | refine Y9 ?_ | (apply hK; clear hK K) | refine Ya ?_ | (refine Yb rfl ?_ ?_ <;> intro hcnd <;> (try simp at hcnd) <;> try exact dc) | refine Yc ?_ | (refine Yd ?_; simp only [X0, Nat.reduceBEq]) | (refine Ye ?_; refine Yf ?_) | (refine Yh ?_ ?_; (focus (simp; done)); refine Ys ?_) | refine Yg ?_ | (simp only [X0, Nat.reduceBEq]) | clear hK K)
  · refine awp_countU (fun i => (some V.junk :: none :: some V.junk :: none :: zS 4 (zN 2 (some (V.int .i64 i) :: zS 19 [])))) (fun i => [.live ((lowT l i).map byteV)]) l.length ?_ fun i hi KL hL => ?_
    · dsimp only [ups, zN, zS]
      exact Yr [some 0] (by simp [rowsOver, lowT_zero])
    dsimp only [ups, zN, zS]
    have hpl := lowT_length l i
    rcases Nat.lt_or_ge i l.length with hi | hi
    · have hg := lowT_get l i hi
      have hs := lowT_succ l i hi
      have hc : (l[i]).toNat < 256 := UInt8.toNat_lt _
      obtain ⟨c, hcc⟩ : ∃ c, l[i] = c := ⟨_, rfl⟩
      rw [hcc] at hg hs hc
      obtain ⟨L2, hL2⟩ : ∃ L2, lowT l (i + 1) = L2 := ⟨_, rfl⟩
      rw [hL2] at hs
      by_cases a1 : (65 : Int) ≤ c.toNat <;> by_cases a2 : (c.toNat : Int) ≤ 90 <;> (try (exfalso; omega))
      · have hu := lowF_up c ⟨by omega, by omega⟩
        have hw : (c.toNat : Int) + 97 - 65 = ((lowF c).toNat : Int) := by omega
        repeat' (first | ((first | refine Y0 rfl fun K9 h9 => ?_ | (refine Y3 ?_ ?_; (focus (simp [hpl, hg, a1, a2]; done)); intro K9 h9)); simp (disch := first | exact dd | fail) [hpl, hg, a1, a2]; (try simp (disch := first | exact de | fail) only [X7]); ((repeat (refine Yz ?_)); (first | refine h9 _ _ (Ys ?_)); clear h9 K9)) | refine Y6 ?_ | (refine Y8 fun K hK => ?_) | refine Y9 ?_ | (apply hK; clear hK K) | refine Ya ?_ | (refine Yb rfl ?_ ?_ <;> intro hcnd <;> (try simp at hcnd) <;> try exact dc) | refine Yc ?_ | (refine Yd ?_; simp only [X0, Nat.reduceBEq]) | (refine Ye ?_; refine Yf ?_) | (refine Yh ?_ ?_; (focus (simp [hpl, hg, a1, a2]; done)); refine Ys ?_) | refine Yg ?_ | (simp only [X0, Nat.reduceBEq]) | clear hK K)
        refine hL _ _ hi ?_
        have e : ((lowT l i).map byteV).set i (.int .u8 (lowF c).toNat) = L2.map byteV := by rw [hs, List.map_set]; rfl
        exact Le.mk [some 0] (by dsimp only [ups, zN, zS]; simp) (rowsRen_of (by simp) (by rw [hw, e, hL2]; simp [rowsOver])) (by simp)
      all_goals
        have hid := lowF_id c (by omega)
        repeat' (first | ((first | refine Y0 rfl fun K9 h9 => ?_ | (refine Y3 ?_ ?_; (focus (simp [hpl, hg, a1, a2]; done)); intro K9 h9)); simp (disch := first | exact dd | fail) [hpl, hg, a1, a2]; (try simp (disch := first | exact de | fail) only [X7]); ((repeat (refine Yz ?_)); (first | refine h9 _ _ (Ys ?_)); clear h9 K9)) | refine Y6 ?_ | (refine Y8 fun K hK => ?_) | refine Y9 ?_ | (apply hK; clear hK K) | refine Ya ?_ | (refine Yb rfl ?_ ?_ <;> intro hcnd <;> (try simp at hcnd) <;> try exact dc) | refine Yc ?_ | (refine Yd ?_; simp only [X0, Nat.reduceBEq]) | (refine Ye ?_; refine Yf ?_) | (refine Yh ?_ ?_; (focus (simp [hpl, hg, a1, a2]; done)); refine Ys ?_) | refine Yg ?_ | (simp only [X0, Nat.reduceBEq]) | clear hK K)
        refine hL _ _ hi ?_
        rw [hid, bset_self (lowT l i) i c (by omega) hg] at hs
        rw [hL2, hs]
        exact Yr [some 0] (by simp [rowsOver])
    · obtain rfl : i = l.length := by omega
      rw [lowT_full]
      have hB := bytes_full (l := lowS l) (n := l.length) (by simp)
      have hB2 : List.take l.length (lowS l) = lowS l := List.take_of_length_le (by simp)
      repeat' (first | ((first | refine Y0 rfl fun K9 h9 => ?_ | (refine Y3 ?_ ?_; (focus (simp [hB, hB2]; done)); intro K9 h9)); simp (disch := first | exact dd | fail) [hB, hB2]; (try simp (disch := first | exact de | fail) only [X7]); ((repeat (refine Yz ?_)); (first | refine h9 _ _ (Ys ?_)); clear h9 K9)) | refine Y6 ?_ | (refine Y8 fun K hK => ?_) | refine Y9 ?_ | (apply hK; clear hK K) | refine Ya ?_ | (refine Yb rfl ?_ ?_ <;> intro hcnd <;> (try simp at hcnd) <;> try exact dc) | refine Yc ?_ | (refine Yd ?_; simp only [X0, Nat.reduceBEq]) | (refine Ye ?_; refine Yf ?_) | (refine Yh ?_ ?_; (focus (simp [hB, hB2]; done)); refine Ys ?_) | refine Yg ?_ | (simp only [X0, Nat.reduceBEq]) | clear hK K)
      exact .pure .str
  · exact .str

end Go.Proofs.YtcfmanhblonjeaaGreatDoor

