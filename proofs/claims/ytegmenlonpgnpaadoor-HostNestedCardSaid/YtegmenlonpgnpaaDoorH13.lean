/-
  HOST: mail bases, in plain Lean.
  Conditions: none.
-/
import Derived.Test.YtegmenlonpgnpaaDoorH12
namespace Go.Proofs.YtegmenlonpgnpaaDoor
open Go.VS Go.Hst
set_option linter.all false
attribute [local irreducible] arun arunD arunU AWp aend

/-! ### Plain -/
theorem trim_dot (l : List UInt8) : Lib.trimPrefix (46 :: l) [46] = l := by
  unfold Lib.trimPrefix Lib.hasPrefix
  rw [if_pos (by simp [List.isPrefixOf])]; rfl
theorem trim_not {s : List UInt8} (h : s.getD 0 0 ≠ 46) : Lib.trimPrefix s [46] = s := by
  unfold Lib.trimPrefix Lib.hasPrefix
  cases s with
  | nil => rfl
  | cons a l =>
    have : a ≠ 46 := by simpa using h
    rw [if_neg (by simp [List.isPrefixOf]; exact fun e => this e.symm)]
theorem mail_parts {s : List UInt8} (h : mailB s = true) : 64 ∈ s ∧ s.length ≤ 128 ∧ locB (befC 64 s) = true ∧ dnsB (aftC 64 s) = true := by
  simp only [mailB, Bool.and_eq_true, decide_eq_true_eq] at h
  exact h
theorem dns_ne {s : List UInt8} (h : dnsB s = true) : s ≠ [] := by rintro rfl; exact absurd h (by decide)
theorem dns_noat {s : List UInt8} (h : dnsB s = true) : ¬ 64 ∈ s := fun hm => by rw [dns_bad 64 (by decide) (by decide) hm] at h; cases h
theorem dns_len {s : List UInt8} (h : dnsB s = true) : s.length ≤ 128 := (dns_parts h).1
theorem mail_base {s : List UInt8} (h : mailB s = true) : mbaseB s = true := by
  have := (mail_parts h).2.1
  simp [mbaseB, h, this]
theorem mail_nodns {s : List UInt8} (h : mailB s = true) : dnsB s = false := by
  cases hd : dnsB s with
  | false => rfl
  | true => exact absurd (mail_parts h).1 (dns_noat hd)
theorem mbase_cases {s : List UInt8} (h : mbaseB s = true) : mailB s = true ∨ (mailB s = false ∧ ((dnsB s = true ∧ s.getD 0 0 ≠ 46) ∨ ∃ d, s = 46 :: d ∧ dnsB d = true)) := by
  simp only [mbaseB, Bool.and_eq_true, decide_eq_true_eq, Bool.or_eq_true] at h
  cases hm : mailB s with
  | true => exact .inl rfl
  | false =>
    refine .inr ⟨rfl, ?_⟩
    have hd := h.2.resolve_left (by simp [hm])
    by_cases h0 : s.getD 0 0 = 46
    · right
      cases s with
      | nil => simp at h0
      | cons a l =>
        have : a = 46 := by simpa using h0
        subst this
        rw [trim_dot] at hd
        exact ⟨l, rfl, hd⟩
    · rw [trim_not h0] at hd
      exact .inl ⟨hd, h0⟩
theorem mbase_ne {s : List UInt8} (h : mbaseB s = true) : s ≠ [] := by
  rintro rfl; exact absurd h (by decide)
theorem mbase_noat {s : List UInt8} (h : mbaseB s = true) (hm : mailB s = false) : ¬ 64 ∈ s := by
  rcases mbase_cases h with hd | ⟨-, ⟨hd, -⟩ | ⟨d, rfl, hd⟩⟩
  · rw [hm] at hd; cases hd
  · exact dns_noat hd
  · intro h2
    rcases List.mem_cons.1 h2 with h2 | h2
    · cases h2
    · exact dns_noat hd h2
def rmbaseB (s : List UInt8) : Bool := mailB s || (dnsB s || (decide (s.length ≤ 128) && (decide (1 < s.length) && (s.getD 0 0 == 46 && dnsB (s.drop 1)))))
theorem rmbase_eq (s : List UInt8) : rmbaseB s = mbaseB s := by
  unfold rmbaseB mbaseB
  cases hm : mailB s
  · simp only [Bool.false_or]
    by_cases h0 : s.getD 0 0 = 46
    · cases s with
      | nil => simp at h0
      | cons a l =>
        have : a = 46 := by simpa using h0
        subst this
        rw [dns_dot, trim_dot]
        simp only [Bool.false_or, List.getD_cons_zero, List.drop_succ_cons, List.drop_zero]
        cases hd : dnsB l
        · simp
        · have hp := List.length_pos_iff.2 (dns_ne hd)
          have : decide (1 < (46 :: l : List UInt8).length) = true := by simp; omega
          rw [this]
          simp
    · rw [trim_not h0]
      have : (s.getD 0 0 == 46) = false := beq_false_of_ne h0
      rw [this]
      cases hd : dnsB s
      · simp
      · have := dns_len hd
        simp [this]
  · have := (mail_parts hm).2.1
    simp [this]
def rmwithinB (s b : List UInt8) : Bool := mbaseB b && (if mailB s = true then (if mailB b = true then mmatchB s b else inB (aftC 64 s) b) else mbaseB s && (!mailB b && inB s b))
theorem rmwithin_eq (s b : List UInt8) : rmwithinB s b = mwithinB s b := by
  unfold rmwithinB mwithinB
  cases hb : mbaseB b
  · rfl
  simp only [Bool.true_and]
  cases hm : mailB s
  · cases hs : mbaseB s
    · simp
    · have hno := mbase_noat hs hm
      cases hmb : mailB b
      · simp [domB, hno]
      · simp [mmatchB, hm]
  · have h1 := mail_base hm
    have h2 := (mail_parts hm).1
    simp [h1, domB, h2]

end Go.Proofs.YtegmenlonpgnpaaDoor
