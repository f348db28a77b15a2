/-
  HOST: texts cut at a byte, in plain Lean; the kit's words for them.
  Conditions: none.
-/
import Derived.Lib.SplitLaws
import Derived.Lib.Strings
set_option linter.unusedSimpArgs false
set_option linter.unusedVariables false
namespace Go.Hst

abbrev Bs := List UInt8
def lowB (c : UInt8) : UInt8 := if 65 ≤ c.toNat ∧ c.toNat ≤ 90 then UInt8.ofNat (c.toNat + 32) else c
def low (s : Bs) : Bs := s.map lowB
def okB (c : UInt8) : Bool := (97 ≤ c.toNat && c.toNat ≤ 122) || (65 ≤ c.toNat && c.toNat ≤ 90) || (48 ≤ c.toNat && c.toNat ≤ 57)

/-- A text, cut at each byte c. -/
def splitC (c : UInt8) : Bs → List Bs
  | [] => [[]]
  | b :: l => if b = c then [] :: splitC c l else match splitC c l with
    | [] => [[b]]
    | x :: xs => (b :: x) :: xs
def befC (c : UInt8) (s : Bs) : Bs := s.takeWhile (· != c)
def aftC (c : UInt8) (s : Bs) : Bs := (s.dropWhile (· != c)).drop 1

theorem splitC_ne (c : UInt8) : ∀ s, splitC c s ≠ []
  | [] => by simp [splitC]
  | b :: l => by
    unfold splitC
    split
    · simp
    · split <;> simp

theorem splitC_not (c : UInt8) : ∀ s : Bs, c ∉ s → splitC c s = [s]
  | [], _ => rfl
  | b :: l, h => by
    simp only [List.mem_cons, not_or] at h
    unfold splitC
    rw [if_neg (fun e => h.1 e.symm), splitC_not c l h.2]

theorem splitC_hit (c : UInt8) : ∀ a b : Bs, c ∉ a → splitC c (a ++ c :: b) = a :: splitC c b
  | [], b, _ => by simp [splitC]
  | x :: a, b, h => by
    simp only [List.mem_cons, not_or] at h
    rw [List.cons_append, splitC, if_neg (fun e => h.1 e.symm), splitC_hit c a b h.2]

theorem splitC_len (c : UInt8) : ∀ s : Bs, (splitC c s).length = s.count c + 1
  | [] => rfl
  | b :: l => by
    have ih := splitC_len c l
    unfold splitC
    split
    · rename_i h; subst h; simp [ih]
    · rename_i h
      rw [List.count_cons_of_ne h]
      split
      · rename_i h2; exact absurd h2 (splitC_ne c l)
      · rename_i x xs h2; rw [h2] at ih; simpa using ih

theorem splitC_mem (c : UInt8) : ∀ (s : Bs) (x : UInt8), x ∈ s → x = c ∨ ∃ p ∈ splitC c s, x ∈ p
  | [], x, h => by simp at h
  | b :: l, x, h => by
    unfold splitC
    split
    · rename_i hb
      rcases List.mem_cons.1 h with rfl | h
      · exact .inl hb
      · rcases splitC_mem c l x h with h | ⟨p, h1, h2⟩
        · exact .inl h
        · exact .inr ⟨p, by simp [h1], h2⟩
    · split
      · rename_i h2; exact absurd h2 (splitC_ne c l)
      · rename_i y ys h2
        rcases List.mem_cons.1 h with rfl | h
        · exact .inr ⟨x :: y, by simp, by simp⟩
        · rcases splitC_mem c l x h with h | ⟨p, h1, h3⟩
          · exact .inl h
          · rw [h2] at h1
            rcases List.mem_cons.1 h1 with rfl | h1
            · exact .inr ⟨b :: p, by simp, by simp [h3]⟩
            · exact .inr ⟨p, by simp [h1], h3⟩

theorem splitC_piece (c : UInt8) : ∀ (s : Bs), ∀ p ∈ splitC c s, c ∉ p ∧ p.length ≤ s.length
  | [], p, h => by simp [splitC] at h; subst h; simp
  | b :: l, p, h => by
    unfold splitC at h
    split at h
    · rcases List.mem_cons.1 h with rfl | h
      · simp
      · have := splitC_piece c l p h; simp; exact ⟨this.1, by omega⟩
    · rename_i hb
      split at h
      · rename_i h2; exact absurd h2 (splitC_ne c l)
      · rename_i y ys h2
        rcases List.mem_cons.1 h with rfl | h
        · have := splitC_piece c l y (by rw [h2]; simp)
          simp only [List.mem_cons, not_or, List.length_cons]
          exact ⟨⟨fun e => hb e.symm, this.1⟩, by omega⟩
        · have := splitC_piece c l p (by rw [h2]; simp [h])
          simp; exact ⟨this.1, by omega⟩

/-! ### The kit's words -/

theorem pre1 (c b : UInt8) (l : Bs) : [c].isPrefixOf (b :: l) = (c == b) := by simp [List.isPrefixOf]

theorem index_one (c : UInt8) : ∀ s : Bs, Lib.index s [c] = if c ∈ s then ((befC c s).length : Int) else -1
  | [] => by simp [Lib.index]
  | b :: l => by
    unfold Lib.index
    rw [pre1, index_one c l]
    by_cases hb : c = b
    · subst hb; simp [befC]
    · have h1 : (c == b) = false := by simpa using hb
      have h2 : (b != c) = true := by simp; exact fun e => hb e.symm
      rw [h1]
      by_cases hm : c ∈ l
      · have : ¬ ((((befC c l).length : Int)) == -1) = true := by simp
        simp only [hm, if_true, List.mem_cons, or_true, Bool.false_eq_true, if_false]
        rw [if_neg this]
        simp [befC, List.takeWhile_cons, h2]
      · simp [hm, hb]

theorem bef_aft (c : UInt8) : ∀ s : Bs, c ∈ s → s = befC c s ++ c :: aftC c s
  | [], h => by simp at h
  | b :: l, h => by
    by_cases hb : b = c
    · subst hb; simp [befC, aftC]
    · have h2 : (b != c) = true := by simpa using hb
      have := bef_aft c l (by rcases List.mem_cons.1 h with h | h; exact absurd h.symm hb; exact h)
      simp only [befC, aftC, List.takeWhile_cons, List.dropWhile_cons, h2, if_true, List.cons_append] at this ⊢
      rw [← this]
theorem bef_not (c : UInt8) : ∀ s : Bs, c ∉ befC c s
  | [] => by simp [befC]
  | b :: l => by
    have ih := bef_not c l
    unfold befC at ih ⊢
    rw [List.takeWhile_cons]
    by_cases hb : b = c
    · subst hb; simp
    · rw [if_pos (by simpa using hb)]
      simp only [List.mem_cons, not_or]
      exact ⟨fun e => hb e.symm, ih⟩
theorem bef_all (c : UInt8) : ∀ (s : Bs), c ∉ s → befC c s = s
  | [], _ => rfl
  | b :: l, h => by
    simp only [List.mem_cons, not_or] at h
    have h2 : (b != c) = true := by simp; exact fun e => h.1 e.symm
    have := bef_all c l h.2
    simp only [befC, List.takeWhile_cons, h2, if_true] at this ⊢
    rw [this]
theorem aft_none (c : UInt8) : ∀ (s : Bs), c ∉ s → aftC c s = []
  | [], _ => rfl
  | b :: l, h => by
    simp only [List.mem_cons, not_or] at h
    have h2 : (b != c) = true := by simp; exact fun e => h.1 e.symm
    have := aft_none c l h.2
    simp only [aftC, List.dropWhile_cons, h2, if_true] at this ⊢
    rw [this]
theorem bef_len (c : UInt8) (s : Bs) : (befC c s).length ≤ s.length := (List.takeWhile_prefix _).length_le
theorem aft_len (c : UInt8) (s : Bs) : (aftC c s).length ≤ s.length := by
  unfold aftC
  rw [List.length_drop]
  have := (List.dropWhile_suffix (l := s) (· != c)).length_le
  omega

theorem take_app {s a b : Bs} {c : UInt8} (h : s = a ++ c :: b) : s.take a.length = a := by rw [h]; simp
theorem drop_app {s a b : Bs} {c : UInt8} (h : s = a ++ c :: b) : s.drop (a.length + 1) = b := by rw [h, List.drop_append]; simp
theorem contains_one (c : UInt8) (s : Bs) : Lib.contains s [c] = decide (c ∈ s) := by
  unfold Lib.contains
  rw [index_one]
  by_cases h : c ∈ s <;> simp [h]

theorem cut_one (c : UInt8) (s : Bs) : Lib.cut s [c] = (befC c s, aftC c s, decide (c ∈ s)) := by
  unfold Lib.cut
  rw [index_one]
  by_cases h : c ∈ s
  · have hs := bef_aft c s h
    simp only [h, if_true]
    rw [if_pos (by omega)]
    simp only [Int.toNat_natCast, List.length_singleton, decide_true, Prod.mk.injEq, and_true]
    constructor
    · exact take_app hs
    · exact drop_app hs
  · simp [h, bef_all c s h, aft_none c s h]

theorem splitK_one (c : UInt8) : ∀ (k : Nat) (s : Bs), s.count c = k → Lib.splitK [c] 0 k s = splitC c s
  | 0, s, h => by
    rw [splitC_not c s (List.count_eq_zero.1 h)]; rfl
  | k + 1, s, h => by
    have hm : c ∈ s := List.count_pos_iff.1 (by omega)
    have hs := bef_aft c s hm
    have hcount : (aftC c s).count c = k := by
      rw [hs, List.count_append, List.count_eq_zero.2 (bef_not c s), List.count_cons_self] at h
      omega
    unfold Lib.splitK
    rw [index_one, if_pos hm, if_neg (by simp)]
    conv => rhs; rw [hs, splitC_hit c _ _ (bef_not c s)]
    simp only [Int.toNat_natCast, Nat.add_zero, List.length_singleton]
    congr 1
    · exact take_app hs
    · rw [drop_app hs, splitK_one c k _ hcount]

theorem indexByte_ge (c : UInt8) : ∀ s : Bs, -1 ≤ Lib.indexByte s c
  | [] => by simp [Lib.indexByte]
  | a :: t => by
    have ih := indexByte_ge c t
    unfold Lib.indexByte
    split
    · decide
    · split <;> omega

theorem indexByte_in (c : UInt8) : ∀ s : Bs, (0 ≤ Lib.indexByte s c) ↔ c ∈ s
  | [] => by simp [Lib.indexByte]
  | b :: l => by
    have ih := indexByte_in c l
    have hg := indexByte_ge c l
    unfold Lib.indexByte
    by_cases hb : b = c
    · subst hb; simp
    · have h1 : (b == c) = false := by simpa using hb
      have h3 : c ≠ b := fun e => hb e.symm
      rw [h1]
      simp only [Bool.false_eq_true, if_false, List.mem_cons, h3, false_or]
      by_cases hm : c ∈ l
      · have h0 := ih.2 hm
        rw [if_neg (by simp; omega)]
        simp only [hm, iff_true]; omega
      · have h0 : ¬ 0 ≤ Lib.indexByte l c := fun h => hm (ih.1 h)
        have : Lib.indexByte l c = -1 := by omega
        simp [hm, this]

end Go.Hst
