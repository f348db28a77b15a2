/-
  CONTRACTS: the deck, damage, OtsRecover.
  Conditions: none.
-/
import Derived.Test.YtbdfghlkkdkpgaaDoorGe
import Derived.Test.YtbdfghlkkdkpgaaDoorTab
import Derived.Test.YtbdfghlkkdkpgaaDoorGd
namespace Go.Proofs.YtbdfghlkkdkpgaaDoor
open Go.VS
set_option linter.all false
attribute [local irreducible] arun arunD AWp aend
/-- A deck, used up to a. -/
def dk (l : List Int) (a : Nat) : List V := [.sl l.length (l.map (V.int .i64)), .int .i64 a]
def dkA (l : List Int) (a : Nat) : Nat := if l.length ≤ a then a else a + 1
def dkX (l : List Int) (a n : Nat) : Int := if l.length ≤ a then 0 else (((l.getD a 0).tmod n + n).tmod n)
@[simp] theorem dk_pures (l : List Int) (a : Nat) : Pures (dk l a) := by simp [dk]
theorem tmod_bounds {x : Int} {n : Nat} (hn : 0 < n) : -(n : Int) < x.tmod n ∧ x.tmod n < n := by
  rcases Int.le_total 0 x with h | h
  · have := Int.tmod_nonneg (n : Int) h
    have := Int.tmod_lt_of_pos x (show (0 : Int) < n by omega)
    omega
  · have h1 : (-x).tmod n = -(x.tmod n) := Int.neg_tmod x n
    have := Int.tmod_nonneg (n : Int) (show 0 ≤ -x by omega)
    have := Int.tmod_lt_of_pos (-x) (show (0 : Int) < n by omega)
    omega
theorem dkX_bounds {l : List Int} {a n : Nat} (hn : 0 < n) : 0 ≤ dkX l a n ∧ dkX l a n < n := by
  unfold dkX
  split
  · omega
  · have h := tmod_bounds (x := l.getD a 0) hn
    exact ⟨Int.tmod_nonneg _ (by omega), Int.tmod_lt_of_pos _ (by omega)⟩

theorem deck_call (l : List Int) : NCall Tryd.prog 9 [.sl l.length (l.map (V.int .i64))] (dk l 0) := by
  refine ncall_body Tryd.func9 rfl Tryd.call9 ?_
  refine awp_slots (s' := [(.sl l.length (l.map (V.int .i64)) : V), .junk, .junk, .junk, .junk, .junk]) rfl ?_
  refine awp_seq fun K hK => ?_
  refine awp_region ?_
  iterate 1 (first | (refine arun_no ?_ ?_; (focus (simp; done)); dsimp only [sput, sset]) | (refine arun_go (by simp; done) fun K9 h9 => ?_; simp; refine h9 _ _ ?_; clear h9 K9; dsimp only [sput, sset]))
  refine arun_end ?_
  refine hK _ _ ?_; clear hK K
  refine awp_seq fun K hK => ?_
  refine awp_region ?_
  iterate 4 (first | (refine arun_no ?_ ?_; (focus (simp; done)); dsimp only [sput, sset]) | (refine arun_go (by simp; done) fun K9 h9 => ?_; simp; refine h9 _ _ ?_; clear h9 K9; dsimp only [sput, sset]))
  refine arun_end ?_
  refine hK _ _ ?_; clear hK K
  refine awp_ret ?_
  refine ret_go ?_
  simp [dk]

set_option maxRecDepth 100000 in
set_option maxHeartbeats 4000000 in
theorem next_call (l : List Int) (a n : Nat) (hl : l.length ≤ 140737488355328) (ha : a ≤ l.length) (hn : 0 < n) (hn2 : n ≤ 1099511627776) (hr : ∀ k ∈ l, -9223372036854775808 ≤ k ∧ k ≤ 9223372036854775807) :
    MCall Tryd.prog 18 [.ref 0 0, .int .i64 n] (dk l a) (dk l (dkA l a)) (.int .i64 (dkX l a n)) := by
  refine mcall_body Tryd.func18 rfl Tryd.call18 ?_ ?_ ?_
  rotate_left 2
  refine awp_slots (s' := [(.ref 0 0 : V), (.int .i64 n : V), .junk, .junk, .junk, .junk, .junk, .junk, .junk, .junk, .junk, .junk, .junk, .junk, .junk, .junk, .junk, .junk, .junk, .junk, .junk, .junk, .junk, .junk, .junk, .junk, .junk, .junk, .junk, .junk, .junk, .junk, .junk, .junk, .junk, .junk, .junk, .junk, .junk]) rfl ?_
  by_cases h : l.length ≤ a
  · rw [show dkA l a = a by rw [dkA, if_pos h], show dkX l a n = 0 by rw [dkX, if_pos h]]
    unfold dk
    repeat' (first | ((first | refine Y0 rfl fun K9 h9 => ?_ | refine Y1 rfl rfl fun K9 h9 => ?_ | refine Y2 rfl rfl fun K9 h9 => ?_); simp (disch := (first | (simp; done) | omega | (simp; omega))) [h]; (try simp (disch := (first | omega | (simp; omega))) only [X7, X8, X9, Xa, Xb, Xc]); ((repeat (refine Yz ?_)); (first | refine h9 _ _ (Ys ?_) | refine h9 _ _ (Yt ?_)); clear h9 K9)) | refine Y6 ?_ | refine Y7 ?_ | (refine Y8 fun K hK => ?_) | refine Y9 ?_ | (apply hK; clear hK K) | ((first | refine Yk (m := 0) (by decide +kernel) [] (by kernel_rfl) (by decide +kernel) ?_); dsimp only [List.replicate, List.append_nil, List.cons_append, List.nil_append, List.length_cons, List.length_nil]) | (refine Yb rfl (fun hcnd => ?_) (fun hcnd => ?_) <;> (try simp at hcnd) <;> (try contradiction) <;> (try (exfalso; omega))) | refine Yc ?_ | (refine Ye ?_; refine Yf ?_) | refine Yg ?_ | (simp only [X0, X1, X2, X3, X4, X5, X6, Nat.reduceBEq]) | (clear hK K; first | (apply hK; clear hK K) | (clear hK K; first | (apply hK; clear hK K) | (clear hK K; first | (apply hK; clear hK K) | (clear hK K; apply hK; clear hK K)))))
    simp
    exact mend_plain
  · rw [show dkA l a = a + 1 by rw [dkA, if_neg h], show dkX l a n = ((l.getD a 0).tmod n + n).tmod n by rw [dkX, if_neg h]]
    unfold dk
    have hg : l[a]? = some (l.getD a 0) := by rw [List.getD_eq_getElem?_getD, List.getElem?_eq_getElem (by omega)]; rfl
    have hm : l.getD a 0 ∈ l := List.mem_of_getElem? hg
    have hb := hr _ hm
    generalize l.getD a 0 = x at *
    have hx := tmod_bounds (x := x) hn
    repeat' (first | ((first | refine Y0 rfl fun K9 h9 => ?_ | refine Y1 rfl rfl fun K9 h9 => ?_ | refine Y2 rfl rfl fun K9 h9 => ?_); simp (disch := (first | (simp; done) | omega | (simp; omega))) [h, hg]; (try simp (disch := (first | omega | (simp; omega))) only [X7, X8, X9, Xa, Xb, Xc]); ((repeat (refine Yz ?_)); (first | refine h9 _ _ (Ys ?_) | refine h9 _ _ (Yt ?_)); clear h9 K9)) | refine Y6 ?_ | refine Y7 ?_ | (refine Y8 fun K hK => ?_) | refine Y9 ?_ | (apply hK; clear hK K) | ((first | refine Yk (m := 0) (by decide +kernel) [] (by kernel_rfl) (by decide +kernel) ?_); dsimp only [List.replicate, List.append_nil, List.cons_append, List.nil_append, List.length_cons, List.length_nil]) | (refine Yb rfl (fun hcnd => ?_) (fun hcnd => ?_) <;> (try simp at hcnd) <;> (try contradiction) <;> (try (exfalso; omega))) | refine Yc ?_ | (refine Ye ?_; refine Yf ?_) | refine Yg ?_ | (simp only [X0, X1, X2, X3, X4, X5, X6, Nat.reduceBEq]) | (clear hK K; first | (apply hK; clear hK K) | (clear hK K; first | (apply hK; clear hK K) | (clear hK K; first | (apply hK; clear hK K) | (clear hK K; apply hK; clear hK K)))))
    have hga : l[a]'(by omega) = x := by have := hg; rw [List.getElem?_eq_getElem (by omega)] at this; exact Option.some.inj this
    simp [hga]
    have hw : IntKind.i64.wrap (x.tmod n + n) = x.tmod n + n := wrap_i64 (by omega) (by omega)
    rw [hw]
    exact ⟨rfl, mend_plain⟩
  · exact .int
  · simp

theorem dkA_le {l : List Int} {a : Nat} (h : a ≤ l.length) : dkA l a ≤ l.length := by unfold dkA; split <;> omega
end Go.Proofs.YtbdfghlkkdkpgaaDoor
