/-
  STEP: the form in which the reference compares texts.
  Conditions: none.
-/
import Derived.Test.YtcfmanhblonjeaaGreatDoorGe
import Derived.Test.YtcfmanhblonjeaaGreatDoorGf
import Derived.Test.YtcfmanhblonjeaaGreatDoorGg
import Derived.Test.YtcfmanhblonjeaaGreatDoorGh
import Derived.Test.YtcfmanhblonjeaaGreatDoorGj
import Derived.Test.YtcfmanhblonjeaaGreatDoorTab
import Derived.Test.YtcfmanhblonjeaaGreatDoorGd
import Derived.Test.YtcfmanhblonjeaaGreatDoorGi
namespace Go.Stp
open Go.VS
def lowS (l : List UInt8) : List UInt8 := l.map lowF
def lowT (l : List UInt8) (i : Nat) : List UInt8 := lowS (l.take i) ++ l.drop i
@[simp] theorem lowT_length (l : List UInt8) (i : Nat) : (lowT l i).length = l.length := by simp [lowT, lowS]; omega
@[simp] theorem lowS_length (l : List UInt8) : (lowS l).length = l.length := by simp [lowS]
theorem lowT_get (l : List UInt8) (i : Nat) (h : i < l.length) : (lowT l i)[i]'(by simpa using h) = l[i] := by
  have hl : (lowS (l.take i)).length = i := by simp; omega
  simp only [lowT]
  rw [List.getElem_append_right (by omega)]
  simp [hl]
theorem lowT_succ (l : List UInt8) (i : Nat) (h : i < l.length) : lowT l (i + 1) = (lowT l i).set i (lowF l[i]) := by
  have hl : (lowS (l.take i)).length = i := by simp; omega
  unfold lowT
  rw [List.set_append_right _ _ (by omega), hl, Nat.sub_self, List.take_succ_eq_append_getElem h, List.drop_eq_getElem_cons h,
    show lowS (l.take i ++ [l[i]]) = lowS (l.take i) ++ [lowF l[i]] from List.map_append, List.append_assoc]
  rfl
theorem lowT_full (l : List UInt8) : lowT l l.length = lowS l := by simp [lowT]
theorem lowT_zero (l : List UInt8) : lowT l 0 = l := by simp [lowT, lowS]
theorem bset_self (l : List UInt8) (i : Nat) (c : UInt8) (h : i < l.length) (e : l[i] = c) : l.set i c = l := by
  apply List.ext_getElem (by simp)
  intro j h1 h2
  rw [List.getElem_set]
  split
  · rename_i h; subst h; exact e.symm
  · rfl
theorem lowF_32 (c : UInt8) : lowF c = 32 ↔ c = 32 := by
  by_cases h : 65 ≤ c.toNat ∧ c.toNat ≤ 90
  · constructor
    · intro e
      have := lowF_up c h
      rw [e] at this
      simp at this
      omega
    · rintro rfl
      simp at h
  · rw [lowF_id c h]
def rst (s : List UInt8) (i : Nat) : List UInt8 := (fst s i).1 ++ (if (fst s i).2 then [32] else [])
theorem fst_last (s : List UInt8) : ∀ i c, (fst s i).1.getLast? = some c → c ≠ 32
  | 0, c => by simp [fst]
  | i + 1, c => by
    rcases Nat.lt_or_ge i s.length with h | h
    · rw [fst_succ s i h]
      unfold fstep
      split
      · exact fst_last s i c
      · rename_i h2
        simp only [List.getLast?_append, List.getLast?_singleton, Option.some_or, Option.some.injEq]
        rintro rfl
        rw [ne_eq, lowF_32]
        exact h2
    · have : fst s (i + 1) = fst s i := by rw [fst, fst, List.take_of_length_le h, List.take_of_length_le (by omega)]
      rw [this]; exact fst_last s i c
theorem rst_len (s : List UInt8) (i : Nat) : (rst s i).length ≤ 2 * i + 1 := by
  have := fst_len s i
  unfold rst
  split <;> simp <;> omega
theorem rst_put (s : List UInt8) (i : Nat) (h : i < s.length) (hc : s[i] ≠ 32) : rst s (i + 1) = rst s i ++ [lowF s[i]] := by
  unfold rst
  rw [fst_succ s i h, fstep, if_neg hc]
  simp only [Bool.false_eq_true, if_false, List.append_nil]
theorem rst_nil (s : List UInt8) (i : Nat) (h : i < s.length) (hc : s[i] = 32) (h0 : rst s i = []) : rst s (i + 1) = [] := by
  unfold rst at *
  rw [fst_succ s i h, fstep, if_pos hc]
  simp at h0
  simp [h0.1]
theorem rst_skip (s : List UInt8) (i : Nat) (h : i < s.length) (hc : s[i] = 32) {Y : List UInt8} (h0 : rst s i = Y ++ [32]) : rst s (i + 1) = Y ++ [32] := by
  have hl := fst_last s i
  have hg := fst_gap s i
  unfold rst at *
  rw [fst_succ s i h, fstep, if_pos hc]
  cases hgap : (fst s i).2
  · rw [hgap] at h0
    simp at h0
    exact absurd rfl (hl 32 (by rw [h0]; simp))
  · rw [hgap] at h0
    simp at h0
    have := hg hgap
    rw [h0] at this
    simp [h0, this]
theorem rst_gap (s : List UInt8) (i : Nat) (h : i < s.length) (hc : s[i] = 32) {Y : List UInt8} {z : UInt8} (hz : z ≠ 32) (h0 : rst s i = Y ++ [z]) : rst s (i + 1) = Y ++ [z] ++ [32] := by
  have hl := fst_last s i
  have hg := fst_gap s i
  unfold rst at *
  rw [fst_succ s i h, fstep, if_pos hc]
  cases hgap : (fst s i).2
  · rw [hgap] at h0
    simp at h0
    simp [h0]
  · rw [hgap] at h0
    simp only [if_true] at h0
    have := (List.append_inj' h0 rfl).2
    simp at this
    exact absurd this.symm hz
theorem rst_end (s : List UInt8) {Y : List UInt8} {z : UInt8} (h0 : rst s s.length = Y ++ [z]) : foldB s = if z = 32 then Y else Y ++ [z] := by
  have hl := fst_last s s.length
  unfold rst at h0
  unfold foldB
  cases hgap : (fst s s.length).2
  · rw [hgap] at h0
    simp at h0
    have := hl z (by rw [h0]; simp)
    rw [if_neg this, h0]
  · rw [hgap] at h0
    simp only [if_true] at h0
    have h2 := List.append_inj' h0 rfl
    simp at h2
    rw [if_pos h2.2.symm, h2.1]
theorem rst_end0 (s : List UInt8) (h0 : rst s s.length = []) : foldB s = [] := by
  unfold rst at h0
  simp at h0
  exact h0.1
end Go.Stp
namespace Go.Proofs.YtcfmanhblonjeaaGreatDoor
open Go.VS Go.Stp
set_option linter.all false
attribute [local irreducible] arun arunD arunU AWp aend
theorem slower_call (l : List UInt8) (hl : l.length ≤ 4294967280) : PCall Tryz.prog 107 [.str l] (.str (lowS l)) := by
  refine pcall_body Tryz.func107 rfl Tryz.call107 ?_ ?_
  rotate_left 1
  refine awp_slots (s' := (.str l : V) :: zJ 32) rfl ?_; dsimp only [zJ]
  repeat' (first | ((first | refine Y0 rfl fun K9 h9 => ?_ | (refine Y3 ?_ ?_; (focus (simp; done)); intro K9 h9)); simp (disch := first | exact dd | fail); (try simp (disch := first | exact de | fail) only [X7]); ((repeat (refine Yz ?_)); (first | refine h9 _ _ (Ys ?_)); clear h9 K9)) | refine Y6 ?_ | (refine Y8 fun K hK => ?_) | refine Y9 ?_ | (apply hK; clear hK K) | refine Ya ?_ | (refine Yb rfl ?_ ?_ <;> intro hcnd <;> (try simp at hcnd) <;> try exact dc) | refine Yc ?_ | (refine Yd ?_; simp only [X0, Nat.reduceBEq]) | (refine Ye ?_; refine Yf ?_) | (refine Yh ?_ ?_; (focus (simp; done)); refine Ys ?_) | refine Yg ?_ | (simp only [X0, Nat.reduceBEq]) | clear hK K)
  · refine awp_countU (fun i => (some V.junk :: none :: some V.junk :: none :: zS 4 (none :: some (V.int .i64 i) :: zS 23 []))) (fun i => [.live ((lowT l i).map byteV)]) l.length ?_ fun i hi KL hL => ?_
    · dsimp only [ups, zN, zS]
      exact Yr [some 0] (by simp [rowsOver, lowT_zero])
    dsimp only [ups, zN, zS]
    have hpl := lowT_length l i
    rcases Nat.lt_or_ge i l.length with hi | hi
    · have hg := lowT_get l i hi
      have hs := lowT_succ l i hi
      have hc : (l[i]).toNat < 256 := UInt8.toNat_lt _
      obtain ⟨c, hcc⟩ : ∃ c, l[i] = c := ⟨_, rfl⟩
      rw [hcc] at hg hs hc
      obtain ⟨L2, hL2⟩ : ∃ L2, lowT l (i + 1) = L2 := ⟨_, rfl⟩
      rw [hL2] at hs
      by_cases a1 : (65 : Int) ≤ c.toNat <;> by_cases a2 : (c.toNat : Int) ≤ 90 <;> (try (exfalso; omega))
      · have hu := lowF_up c ⟨by omega, by omega⟩
        have hw : (c.toNat : Int) + 32 = ((lowF c).toNat : Int) := by omega
        repeat' (first | ((first | refine Y0 rfl fun K9 h9 => ?_ | (refine Y3 ?_ ?_; (focus (simp [hpl, hg, a1, a2]; done)); intro K9 h9)); simp (disch := first | exact dd | fail) [hpl, hg, a1, a2]; (try simp (disch := first | exact de | fail) only [X7]); ((repeat (refine Yz ?_)); (first | refine h9 _ _ (Ys ?_)); clear h9 K9)) | refine Y6 ?_ | (refine Y8 fun K hK => ?_) | refine Y9 ?_ | (apply hK; clear hK K) | refine Ya ?_ | (refine Yb rfl ?_ ?_ <;> intro hcnd <;> (try simp at hcnd) <;> try exact dc) | refine Yc ?_ | (refine Yd ?_; simp only [X0, Nat.reduceBEq]) | (refine Ye ?_; refine Yf ?_) | (refine Yh ?_ ?_; (focus (simp [hpl, hg, a1, a2]; done)); refine Ys ?_) | refine Yg ?_ | (simp only [X0, Nat.reduceBEq]) | clear hK K)
        refine hL _ _ hi ?_
        have e : ((lowT l i).map byteV).set i (.int .u8 (lowF c).toNat) = L2.map byteV := by rw [hs, List.map_set]; rfl
        exact Le.mk [some 0] (by dsimp only [ups, zN, zS]; simp) (rowsRen_of (by simp) (by rw [hw, e, hL2]; simp [rowsOver])) (by simp)
      all_goals
        have hid := lowF_id c (by omega)
        repeat' (first | ((first | refine Y0 rfl fun K9 h9 => ?_ | (refine Y3 ?_ ?_; (focus (simp [hpl, hg, a1, a2]; done)); intro K9 h9)); simp (disch := first | exact dd | fail) [hpl, hg, a1, a2]; (try simp (disch := first | exact de | fail) only [X7]); ((repeat (refine Yz ?_)); (first | refine h9 _ _ (Ys ?_)); clear h9 K9)) | refine Y6 ?_ | (refine Y8 fun K hK => ?_) | refine Y9 ?_ | (apply hK; clear hK K) | refine Ya ?_ | (refine Yb rfl ?_ ?_ <;> intro hcnd <;> (try simp at hcnd) <;> try exact dc) | refine Yc ?_ | (refine Yd ?_; simp only [X0, Nat.reduceBEq]) | (refine Ye ?_; refine Yf ?_) | (refine Yh ?_ ?_; (focus (simp [hpl, hg, a1, a2]; done)); refine Ys ?_) | refine Yg ?_ | (simp only [X0, Nat.reduceBEq]) | clear hK K)
        refine hL _ _ hi ?_
        rw [hid, bset_self (lowT l i) i c (by omega) hg] at hs
        rw [hL2, hs]
        exact Yr [some 0] (by simp [rowsOver])
    · obtain rfl : i = l.length := by omega
      rw [lowT_full]
      have hB := bytes_full (l := lowS l) (n := l.length) (by simp)
      have hB2 : List.take l.length (lowS l) = lowS l := List.take_of_length_le (by simp)
      repeat' (first | ((first | refine Y0 rfl fun K9 h9 => ?_ | (refine Y3 ?_ ?_; (focus (simp [hB, hB2]; done)); intro K9 h9)); simp (disch := first | exact dd | fail) [hB, hB2]; (try simp (disch := first | exact de | fail) only [X7]); ((repeat (refine Yz ?_)); (first | refine h9 _ _ (Ys ?_)); clear h9 K9)) | refine Y6 ?_ | (refine Y8 fun K hK => ?_) | refine Y9 ?_ | (apply hK; clear hK K) | refine Ya ?_ | (refine Yb rfl ?_ ?_ <;> intro hcnd <;> (try simp at hcnd) <;> try exact dc) | refine Yc ?_ | (refine Yd ?_; simp only [X0, Nat.reduceBEq]) | (refine Ye ?_; refine Yf ?_) | (refine Yh ?_ ?_; (focus (simp [hB, hB2]; done)); refine Ys ?_) | refine Yg ?_ | (simp only [X0, Nat.reduceBEq]) | clear hK K)
      exact .pure .str
  · exact .str

theorem rfold_call (s : List UInt8) (hs : s.length ≤ 1000000) : PCall Tryz.prog 153 [.str s] (.str (foldB s)) := by
  have hlow := slower_call s (by omega)
  refine pcall_body Tryz.func153 rfl Tryz.call153 ?_ ?_
  rotate_left 1
  refine awp_slots (s' := (.str s : V) :: zJ 55) rfl ?_; dsimp only [zJ]
  have hll := lowS_length s
  repeat' (first | ((first | refine Y0 rfl fun K9 h9 => ?_ | (refine Y3 ?_ ?_; (focus (simp; done)); intro K9 h9)); simp (disch := first | exact dd | fail); (try simp (disch := first | exact de | fail) only [X7]); ((first | refine Ap hlow ?_ | skip) <;> ((repeat (refine Yz ?_)); (first | refine h9 _ _ (Ys ?_)); clear h9 K9))) | refine Y6 ?_ | (refine Y8 fun K hK => ?_) | refine Y9 ?_ | (apply hK; clear hK K) | refine Ya ?_ | (refine Yb rfl ?_ ?_ <;> intro hcnd <;> (try simp at hcnd) <;> try exact dc) | refine Yc ?_ | (refine Yd ?_; simp only [X0, Nat.reduceBEq]) | (refine Ye ?_; refine Yf ?_) | (refine Yh ?_ ?_; (focus (simp; done)); refine Ys ?_) | refine Yg ?_ | (simp only [X0, Nat.reduceBEq]) | clear hK K)
  · refine awp_countU (fun i => (zN 2 (some V.junk :: some (V.osl 0 0 (rst s i).length 1) :: some (V.int .i64 i) :: zS 51 []))) (fun i => [.live ((rst s i).map byteV)]) s.length ?_ fun i hi KL hL => ?_
    · dsimp only [ups, zN, zS]
      exact Le.mk [none] (by simp [fst, rst]) (rowsRen_of (by simp) (by simp [rowsOver, fst, rst])) (by simp)
    dsimp only [ups, zN, zS]
    have hl := rst_len s i
    rcases Nat.lt_or_ge i s.length with hi | hi
    · have hput := rst_put s i hi
      have hnil := rst_nil s i hi
      have hskip := fun h (Y : List UInt8) => rst_skip s i hi h (Y := Y)
      have hgap := fun h (Y : List UInt8) z hz => rst_gap s i hi h (Y := Y) (z := z) hz
      have hlg : (lowS s)[i]'(by simpa using hi) = lowF s[i] := by simp [lowS]
      obtain ⟨c, hcc⟩ : ∃ c, s[i] = c := ⟨_, rfl⟩
      rw [hcc] at hput hnil hskip hgap hlg
      have h32 := lowF_32 c
      obtain ⟨d, hd⟩ : ∃ d, lowF c = d := ⟨_, rfl⟩
      rw [hd] at hlg h32 hput
      have hdl : d.toNat < 256 := UInt8.toNat_lt _
      clear hd
      by_cases hc : c = 32
      · obtain rfl : d = 32 := h32.2 hc
        rcases List.eq_nil_or_concat (rst s i) with hX | ⟨Y, z, hX⟩
        · have := hnil hc hX
          rw [this] at hL
          rw [hX] at hl ⊢
          repeat' (first | ((first | refine Yl rfl fun K9 h9 => ?_ | (refine Ym ?_ ?_; (focus (simp [hlg, hll]; done)); intro K9 h9)); simp (disch := first | exact dd | fail) [hlg, hll]; (try simp (disch := first | exact de | fail) only [X7]); ((repeat (refine Yz ?_)); (first | refine h9 _ _ (Yp ?_)); clear h9 K9)) | refine Yo ?_ | (refine Y8 fun K hK => ?_) | refine Yq ?_ | (apply hK; clear hK K) | refine Ya ?_ | (refine Yb rfl ?_ ?_ <;> intro hcnd <;> (try simp at hcnd) <;> try exact dc) | refine Yc ?_ | (refine Yd ?_; simp only [X0, Nat.reduceBEq]) | (refine Ye ?_; refine Yf ?_) | (refine Yn ?_ ?_; (focus (simp [hlg, hll]; done)); refine Yp ?_) | refine Yg ?_ | (simp only [X0, Nat.reduceBEq]) | clear hK K)
          refine hL _ _ hi ?_
          exact Yr [some 0] (by simp [rowsOver])
        · rw [List.concat_eq_append] at hX
          rw [hX] at hl ⊢
          simp only [List.length_append, List.length_singleton] at hl
          by_cases hz : z = 32
          · subst hz
            have := hskip hc Y hX
            rw [this] at hL
            repeat' (first | ((first | refine Yl rfl fun K9 h9 => ?_ | (refine Ym ?_ ?_; (focus (simp [hlg, hll]; done)); intro K9 h9)); simp (disch := first | exact dd | fail) [hlg, hll]; (try simp (disch := first | exact de | fail) only [X7]); ((repeat (refine Yz ?_)); (first | refine h9 _ _ (Yp ?_)); clear h9 K9)) | refine Yo ?_ | (refine Y8 fun K hK => ?_) | refine Yq ?_ | (apply hK; clear hK K) | refine Ya ?_ | (refine Yb rfl ?_ ?_ <;> intro hcnd <;> (try simp at hcnd) <;> try exact dc) | refine Yc ?_ | (refine Yd ?_; simp only [X0, Nat.reduceBEq]) | (refine Ye ?_; refine Yf ?_) | (refine Yn ?_ ?_; (focus (simp [hlg, hll]; done)); refine Yp ?_) | refine Yg ?_ | (simp only [X0, Nat.reduceBEq]) | clear hK K)
            repeat' (first | ((first | refine Yl rfl fun K9 h9 => ?_ | (refine Ym ?_ ?_; (focus (simp [hlg, hll]; done)); intro K9 h9)); simp (disch := first | exact dd | fail) [hlg, hll]; (try simp (disch := first | exact de | fail) only [X7]); ((repeat (refine Yz ?_)); (first | refine h9 _ _ (Yp ?_)); clear h9 K9)) | refine Yo ?_ | (refine Y8 fun K hK => ?_) | refine Yq ?_ | (apply hK; clear hK K) | refine Ya ?_ | (refine Yb rfl ?_ ?_ <;> intro hcnd <;> (try simp at hcnd) <;> try exact dc) | refine Yc ?_ | (refine Yd ?_; simp only [X0, Nat.reduceBEq]) | (refine Ye ?_; refine Yf ?_) | (refine Yn ?_ ?_; (focus (simp [hlg, hll]; done)); refine Yp ?_) | refine Yg ?_ | (simp only [X0, Nat.reduceBEq]) | clear hK K)
            refine hL _ _ hi ?_
            exact Yr [some 0] (by simp [rowsOver])
          · have := hgap hc Y z hz hX
            rw [this] at hL
            have hzi : ¬ ((z.toNat : Int) = 32) := fun e => hz (by apply UInt8.toNat_inj.1; simp; omega)
            repeat' (first | ((first | refine Yl rfl fun K9 h9 => ?_ | (refine Ym ?_ ?_; (focus (simp [hlg, hll, hzi]; done)); intro K9 h9)); simp (disch := first | exact dd | fail) [hlg, hll, hzi]; (try simp (disch := first | exact de | fail) only [X7]); ((repeat (refine Yz ?_)); (first | refine h9 _ _ (Yp ?_)); clear h9 K9)) | refine Yo ?_ | (refine Y8 fun K hK => ?_) | refine Yq ?_ | (apply hK; clear hK K) | refine Ya ?_ | (refine Yb rfl ?_ ?_ <;> intro hcnd <;> (try simp at hcnd) <;> try exact dc) | refine Yc ?_ | (refine Yd ?_; simp only [X0, Nat.reduceBEq]) | (refine Ye ?_; refine Yf ?_) | (refine Yn ?_ ?_; (focus (simp [hlg, hll, hzi]; done)); refine Yp ?_) | refine Yg ?_ | (simp only [X0, Nat.reduceBEq]) | clear hK K)
            refine hL _ _ hi ?_
            exact Yr [some 2] (by simp [rowsOver, byteV, List.take_of_length_le])
      · have hdn : ¬ d = 32 := fun e => hc (h32.1 e)
        have hdi : ¬ ((d.toNat : Int) = 32) := fun e => hdn (by apply UInt8.toNat_inj.1; simp; omega)
        rw [hput hc] at hL
        clear hput hnil hskip hgap
        generalize rst s i = X at *
        repeat' (first | ((first | refine Yl rfl fun K9 h9 => ?_ | (refine Ym ?_ ?_; (focus (simp [hlg, hdi, hll]; done)); intro K9 h9)); simp (disch := first | exact dd | fail) [hlg, hdi, hll]; (try simp (disch := first | exact de | fail) only [X7]); ((repeat (refine Yz ?_)); (first | refine h9 _ _ (Yp ?_)); clear h9 K9)) | refine Yo ?_ | (refine Y8 fun K hK => ?_) | refine Yq ?_ | (apply hK; clear hK K) | refine Ya ?_ | (refine Yb rfl ?_ ?_ <;> intro hcnd <;> (try simp at hcnd) <;> try exact dc) | refine Yc ?_ | (refine Yd ?_; simp only [X0, Nat.reduceBEq]) | (refine Ye ?_; refine Yf ?_) | (refine Yn ?_ ?_; (focus (simp [hlg, hdi, hll]; done)); refine Yp ?_) | refine Yg ?_ | (simp only [X0, Nat.reduceBEq]) | clear hK K)
        refine hL _ _ hi ?_
        exact Yr [some 2] (by simp [rowsOver, byteV, List.take_of_length_le])
    · obtain rfl : i = s.length := by omega
      have hend := fun (Y : List UInt8) z => rst_end s (Y := Y) (z := z)
      have hend0 := rst_end0 s
      rcases List.eq_nil_or_concat (rst s s.length) with hX | ⟨Y, z, hX⟩
      · rw [hX] at hl ⊢
        repeat' (first | ((first | refine Yl rfl fun K9 h9 => ?_ | (refine Ym ?_ ?_; (focus (simp [hll]; done)); intro K9 h9)); simp (disch := first | exact dd | fail) [hll]; (try simp (disch := first | exact de | fail) only [X7]); ((repeat (refine Yz ?_)); (first | refine h9 _ _ (Yp ?_)); clear h9 K9)) | refine Yo ?_ | (refine Y8 fun K hK => ?_) | refine Yq ?_ | (apply hK; clear hK K) | refine Ya ?_ | (refine Yb rfl ?_ ?_ <;> intro hcnd <;> (try simp at hcnd) <;> try exact dc) | refine Yc ?_ | (refine Yd ?_; simp only [X0, Nat.reduceBEq]) | (refine Ye ?_; refine Yf ?_) | (refine Yn ?_ ?_; (focus (simp [hll]; done)); refine Yp ?_) | refine Yg ?_ | (simp only [X0, Nat.reduceBEq]) | clear hK K)
        rw [hend0 hX]
        simp
        exact .pure .str
      · rw [List.concat_eq_append] at hX
        rw [hX] at hl ⊢
        simp only [List.length_append, List.length_singleton] at hl
        by_cases hz : z = 32
        · subst hz
          repeat' (first | ((first | refine Yl rfl fun K9 h9 => ?_ | (refine Ym ?_ ?_; (focus (simp [hll]; done)); intro K9 h9)); simp (disch := first | exact dd | fail) [hll]; (try simp (disch := first | exact de | fail) only [X7]); ((repeat (refine Yz ?_)); (first | refine h9 _ _ (Yp ?_)); clear h9 K9)) | refine Yo ?_ | (refine Y8 fun K hK => ?_) | refine Yq ?_ | (apply hK; clear hK K) | refine Ya ?_ | (refine Yb rfl ?_ ?_ <;> intro hcnd <;> (try simp at hcnd) <;> try exact dc) | refine Yc ?_ | (refine Yd ?_; simp only [X0, Nat.reduceBEq]) | (refine Ye ?_; refine Yf ?_) | (refine Yn ?_ ?_; (focus (simp [hll]; done)); refine Yp ?_) | refine Yg ?_ | (simp only [X0, Nat.reduceBEq]) | clear hK K)
          rw [hend Y 32 hX]
          simp
          exact .pure .str
        · have hzi : ¬ ((z.toNat : Int) = 32) := fun e => hz (by apply UInt8.toNat_inj.1; simp; omega)
          have hB : List.take (Y.length + 1) (Y.map byteV ++ [byteV z]) = Y.map byteV ++ [byteV z] := List.take_of_length_le (by simp)
          have hB2 : List.take (Y.length + 1) (Y ++ [z]) = Y ++ [z] := List.take_of_length_le (by simp)
          have hby : (∀ (c : V), (∃ a, a ∈ Y ∧ byteV a = c) ∨ c = byteV z → c.isByte = true) ↔ True := iff_true_intro (by rintro c (⟨a, -, rfl⟩ | rfl) <;> rfl)
          repeat' (first | ((first | refine Yl rfl fun K9 h9 => ?_ | (refine Ym ?_ ?_; (focus (simp [hll, hzi, hB, hB2, hby]; done)); intro K9 h9)); simp (disch := first | exact dd | fail) [hll, hzi, hB, hB2, hby]; (try simp (disch := first | exact de | fail) only [X7]); ((repeat (refine Yz ?_)); (first | refine h9 _ _ (Yp ?_)); clear h9 K9)) | refine Yo ?_ | (refine Y8 fun K hK => ?_) | refine Yq ?_ | (apply hK; clear hK K) | refine Ya ?_ | (refine Yb rfl ?_ ?_ <;> intro hcnd <;> (try simp at hcnd) <;> try exact dc) | refine Yc ?_ | (refine Yd ?_; simp only [X0, Nat.reduceBEq]) | (refine Ye ?_; refine Yf ?_) | (refine Yn ?_ ?_; (focus (simp [hll, hzi, hB, hB2, hby]; done)); refine Yp ?_) | refine Yg ?_ | (simp only [X0, Nat.reduceBEq]) | clear hK K)
          rw [hend Y z hX, if_neg hz]
          simp
          exact .pure .str
  · exact .str

theorem rtmatch_call (a b : List UInt8) (ha : a.length ≤ 65536) (hb : b.length ≤ 65536) : PCall Tryz.prog 150 [.str a, .str b] (.bool (foldB a == foldB b)) := by
  have h1 := rfold_call a (by omega)
  have h2 := rfold_call b (by omega)
  refine pcall_body Tryz.func150 rfl Tryz.call150 ?_ ?_
  rotate_left 1
  refine awp_slots (s' := (.str a : V) :: (.str b : V) :: zJ 8) rfl ?_; dsimp only [zJ]
  repeat' (first | (refine Y0 rfl fun K9 h9 => ?_; simp (disch := first | exact dd | fail); (try simp (disch := first | exact de | fail) only [X7]); ((first | refine Ap h1 ?_ | refine Ap h2 ?_ | skip) <;> ((repeat (refine Yz ?_)); (first | refine h9 _ _ (Ys ?_)); clear h9 K9))) | refine Y6 ?_ | (refine Y8 fun K hK => ?_) | refine Y9 ?_ | (apply hK; clear hK K) | (refine Ye ?_; refine Yf ?_) | refine Yg ?_ | (simp only [X0, Nat.reduceBEq]) | clear hK K)
  · exact .pure .bool
  · exact .bool
end Go.Proofs.YtcfmanhblonjeaaGreatDoor

