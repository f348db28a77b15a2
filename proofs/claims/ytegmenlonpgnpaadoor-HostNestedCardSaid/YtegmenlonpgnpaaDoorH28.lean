/-
  HOST: networks, in plain Lean: they are ranges; of two over one address, one lies within the other.
  Conditions: none.
-/
import Derived.Test.YtegmenlonpgnpaaDoorH27
namespace Go.Proofs.YtegmenlonpgnpaaDoor
open Go.VS Go.Hst
set_option linter.all false

theorem mJ_shift (k i : Nat) : ∀ j, j ≤ 8 → mJ k i j = mJ (min (k - 8 * i) 8) 0 j
  | 0, _ => rfl
  | j + 1, h => by
    have ih := mJ_shift k i j (by omega)
    unfold mJ
    rw [ih]
    by_cases hc : 8 * i + j < k
    · rw [if_pos hc, if_pos (by omega)]
    · rw [if_neg hc, if_neg (by omega)]
theorem mB_shift (k i : Nat) : mB k i = mB (min (k - 8 * i) 8) 0 := mJ_shift k i 8 (by omega)
theorem mB_sub0 : ∀ t, t < 9 → ∀ t', t' < 9 → t ≤ t' → mB t 0 &&& mB t' 0 = mB t 0 ∧ mB t 0 &&& ~~~(mB t' 0) = 0 := by decide +kernel
theorem mB_sub {k k' : Nat} (h : k ≤ k') (i : Nat) : mB k i &&& mB k' i = mB k i ∧ mB k i &&& ~~~(mB k' i) = 0 := by
  rw [mB_shift k i, mB_shift k' i]
  exact mB_sub0 _ (by omega) _ (by omega) (by omega)
theorem mB_bit0 : ∀ t, t < 9 → ∀ r, r < 8 → ((mB t 0).toNat / 2 ^ (7 - r) % 2 == 1) = decide (r < t) := by decide +kernel
theorem mB_bit (k i r : Nat) (hr : r < 8) : ((mB k i).toNat / 2 ^ (7 - r) % 2 == 1) = decide (8 * i + r < k) := by
  rw [mB_shift k i, mB_bit0 _ (by omega) r hr]
  simp only [decide_eq_decide]
  omega

theorem fillP_full (f : Nat → UInt8) (n : Nat) : fillP f n n = (List.range n).map f := by simp [fillP]
theorem fillP_getD {f : Nat → UInt8} {n i : Nat} (h : i < n) : (fillP f n n).getD i 0 = f i := by
  rw [fillP_full, List.getD_eq_getElem?_getD, List.getElem?_map, List.getElem?_range h]; rfl
theorem net_length (a : List UInt8) (k n : Nat) : (netS a k n).length = 2 * n := by
  unfold netS; rw [List.length_append, fillP_length (Nat.le_refl n), fillP_length (Nat.le_refl n)]; omega
theorem net_take (a : List UInt8) (k n : Nat) : (netS a k n).take n = fillP (xB a k) n n := by
  unfold netS; rw [List.take_left' (fillP_length (Nat.le_refl n))]
theorem net_drop (a : List UInt8) (k n : Nat) : (netS a k n).drop n = fillP (mB k) n n := by
  unfold netS; rw [List.drop_left' (fillP_length (Nat.le_refl n))]
def aB (a : List UInt8) (i : Nat) : UInt8 := if i < a.length then a.getD i 0 else 0
theorem xB_eq (a : List UInt8) (k i : Nat) : xB a k i = aB a i &&& mB k i := by
  unfold xB aB
  split
  · rfl
  · simp

theorem net_bitM (k n i : Nat) (h : i < 8 * n) : bitB (fillP (mB k) n n) i = decide (i < k) := by
  unfold bitB
  rw [fillP_getD (by omega), mB_bit _ _ _ (Nat.mod_lt _ (by omega))]
  simp only [decide_eq_decide]
  omega
theorem and_bit (c d : UInt8) (s : Nat) (h : ((c &&& d).toNat / 2 ^ s % 2 == 1) = true) : (d.toNat / 2 ^ s % 2 == 1) = true := by
  rw [UInt8.toNat_and] at h
  simp only [beq_iff_eq] at h ⊢
  have h1 := Nat.testBit_eq_decide_div_mod_eq (x := c.toNat &&& d.toNat) (i := s)
  have h2 := Nat.testBit_eq_decide_div_mod_eq (x := d.toNat) (i := s)
  rw [h, Nat.testBit_and] at h1
  simp at h1
  rw [h1.2] at h2
  simpa using h2.symm
theorem net_okR (a : List UInt8) (k n i : Nat) (h : i < 8 * n) : okR (fillP (xB a k) n n) (fillP (mB k) n n) i = true := by
  unfold okR
  rw [net_bitM k n i h]
  by_cases hk : i < k
  · rw [if_pos (by simpa using hk)]
    have : anyZ (fillP (mB k) n n) i = false := by
      unfold anyZ
      rw [List.any_eq_false]
      intro j hj
      have hj := List.mem_range.1 hj
      rw [net_bitM k n j (by omega)]
      simp; omega
    rw [this]; rfl
  · rw [if_neg (by simpa using hk)]
    cases hb : bitB (fillP (xB a k) n n) i with
    | false => rfl
    | true =>
      exfalso
      unfold bitB at hb
      rw [fillP_getD (by omega), xB_eq] at hb
      have := and_bit _ _ _ hb
      rw [mB_bit _ _ _ (Nat.mod_lt _ (by omega))] at this
      simp at this
      omega
theorem net_range (a : List UInt8) (k n : Nat) (hn : n = 4 ∨ n = 16) : rngB (netS a k n) = true := by
  have hl := net_length a k n
  have hh : rngH (netS a k n) n = true := by
    unfold rngH
    rw [net_take, net_drop]
    exact rangeAll_yes fun i hi => net_okR a k n i hi
  rcases hn with rfl | rfl
  · rw [rng_8 hl]; exact hh
  · rw [rng_32 hl]; exact hh

theorem all_iff {n : Nat} {p : Nat → Bool} : (List.range n).all p = true ↔ ∀ i, i < n → p i = true := by
  rw [List.all_eq_true]; exact ⟨fun h i hi => h i (List.mem_range.2 hi), fun h i hi => h i (List.mem_range.1 hi)⟩
theorem and_assoc3 (x y z : UInt8) : (x &&& y) &&& z = x &&& (y &&& z) := UInt8.and_assoc x y z

/-- One network lies within another. -/
theorem net_within (a b : List UInt8) (k k' n : Nat) (hn : n = 4 ∨ n = 16) (hk : k' ≤ k) (h : ∀ i, i < n → xB a k i &&& mB k' i = xB b k' i) : awithinB (netS a k n) (netS b k' n) = true := by
  have r1 := net_range a k n hn
  have r2 := net_range b k' n hn
  have l1 := net_length a k n
  have l2 := net_length b k' n
  unfold awithinB
  rw [r2, l2, show 2 * n / 2 = n by omega]
  unfold awH
  rw [if_pos ⟨l1.trans l2.symm, r1⟩, net_take, net_drop, net_take, net_drop]
  simp only [Bool.true_and, Bool.and_eq_true]
  constructor
  · unfold subAll
    rw [all_iff]
    intro i hi
    unfold subAt
    rw [fillP_getD hi, fillP_getD hi, (mB_sub hk i).2]
    rfl
  · unfold inAll
    rw [all_iff]
    intro i hi
    unfold andAt
    rw [fillP_getD hi, fillP_getD hi, fillP_getD hi, h i hi]
    simp
theorem net_self (a : List UInt8) (k k' n : Nat) (hn : n = 4 ∨ n = 16) (hk : k' ≤ k) : awithinB (netS a k n) (netS a k' n) = true := by
  refine net_within a a k k' n hn hk fun i _ => ?_
  rw [xB_eq, xB_eq, and_assoc3, UInt8.and_comm (mB k i), (mB_sub hk i).1]
theorem net_two (a : List UInt8) (k k' n : Nat) (hn : n = 4 ∨ n = 16) : awithinB (netS a k n) (netS a k' n) = true ∨ awithinB (netS a k' n) (netS a k n) = true := by
  rcases Nat.le_total k' k with h | h
  · exact .inl (net_self a k k' n hn h)
  · exact .inr (net_self a k' k n hn h)
theorem net_third (a b : List UInt8) (k k' : Nat) (h : awithinB ((netS a k 4).take 4) (netS b k' 4) = true) : awithinB (netS a k 4) (netS b k' 4) = true ∨ awithinB (netS b k' 4) (netS a k 4) = true := by
  rw [net_take] at h
  have l1 : (fillP (xB a k) 4 4).length = 4 := fillP_length (Nat.le_refl 4)
  have l2 := net_length b k' 4
  unfold awithinB at h
  rw [net_range b k' 4 (.inl rfl), l2] at h
  unfold awH at h
  rw [if_neg (by rw [l1, l2]; omega), net_take, net_drop] at h
  simp only [Bool.true_and, Bool.and_eq_true] at h
  have h3 := h.2.2
  unfold inAll at h3
  rw [all_iff] at h3
  have h4 : ∀ i, i < 4 → xB a k i &&& mB k' i = xB b k' i := by
    intro i hi
    have := h3 i hi
    unfold andAt at this
    rw [fillP_getD hi, fillP_getD hi, fillP_getD hi] at this
    exact beq_iff_eq.1 this
  rcases Nat.le_total k' k with hk | hk
  · exact .inl (net_within a b k k' 4 (.inl rfl) hk h4)
  · right
    refine net_within b a k' k 4 (.inl rfl) hk fun i hi => ?_
    rw [← h4 i hi, xB_eq, and_assoc3, and_assoc3, UInt8.and_comm (mB k' i), (mB_sub hk i).1]
    rw [show mB k i &&& mB k i = mB k i from UInt8.and_self]
end Go.Proofs.YtegmenlonpgnpaaDoor
