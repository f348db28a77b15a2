/-
  VALUE SEMANTICS, 19: arithmetic for simp; parts of literals.
  Conditions: none; over any program.
-/
import Derived.Test.YtllehihgfbkgpaaVs18
set_option linter.unusedSimpArgs false
set_option linter.unusedVariables false
namespace Go.VS


attribute [simp] zeros IntKind.bits

@[simp] theorem ex_pair {α β : Type} {a : α} {b : β} {p : α → β → Prop} : (∃ n e, (a = n ∧ b = e) ∧ p n e) ↔ p a b :=
  ⟨fun ⟨_, _, ⟨h1, h2⟩, h⟩ => by subst h1; subst h2; exact h, fun h => ⟨a, b, ⟨rfl, rfl⟩, h⟩⟩

/-- A whole row laid anew. -/
theorem lput_all {cs vs : List V} (h : vs.length = cs.length) : lput cs 0 vs = vs := by
  apply List.ext_getElem?
  intro j
  rw [lput_get _ _ _ _ (by omega)]
  by_cases hj : j < vs.length
  · rw [if_pos (by omega)]; simp
  · rw [if_neg (by omega), List.getElem?_eq_none (by omega), List.getElem?_eq_none (by omega)]

theorem lput_eq {cs vs : List V} {o : Nat} (h : o + vs.length ≤ cs.length) : lput cs o vs = cs.take o ++ vs ++ cs.drop (o + vs.length) := by
  apply List.ext_getElem?
  intro j
  rw [lput_get _ _ _ _ h, List.append_assoc, List.getElem?_append, List.getElem?_append]
  simp only [List.length_take, Nat.min_eq_left (show o ≤ cs.length by omega), List.getElem?_drop]
  by_cases h1 : j < o
  · rw [if_neg (by omega), if_pos h1, List.getElem?_take, if_pos h1]
  · rw [if_neg h1]
    by_cases h2 : j < o + vs.length
    · rw [if_pos (by omega), if_pos (by omega)]
    · rw [if_neg (by omega), if_neg (by omega)]
      congr 1
      omega

theorem ofInt_nat (w a : Nat) : BitVec.ofInt w (a : Int) = BitVec.ofNat w a := by
  apply BitVec.eq_of_toNat_eq
  simp

theorem bits_nat {k : IntKind} {a b : Nat} (ha : a < 2 ^ k.bits) (hb : b < 2 ^ k.bits) :
    bits .and k a b = k.wrap ((a &&& b : Nat) : Int) ∧ bits .or k a b = k.wrap ((a ||| b : Nat) : Int) ∧ bits .xor k a b = k.wrap ((a ^^^ b : Nat) : Int) := by
  refine ⟨?_, ?_, ?_⟩ <;> simp only [bits, ofInt_nat, BitVec.toNat_and, BitVec.toNat_or, BitVec.toNat_xor, BitVec.toNat_ofNat, Nat.mod_eq_of_lt ha, Nat.mod_eq_of_lt hb]

theorem bits_and_mask {k : IntKind} {n : Int} (j : Nat) (h0 : 0 ≤ n) (h1 : n < 2 ^ k.bits) (hj : j < k.bits) : bits .and k n ((2 ^ j - 1 : Nat) : Int) = n % 2 ^ j := by
  obtain ⟨a, rfl⟩ : ∃ a : Nat, n = a := ⟨n.toNat, by omega⟩
  have hp : 2 ^ j < 2 ^ k.bits := Nat.pow_lt_pow_right (by omega) hj
  have ha : a < 2 ^ k.bits := by exact_mod_cast h1
  rw [(bits_nat ha (by omega)).1, Nat.and_two_pow_sub_one_eq_mod]
  have hlt : a % 2 ^ j < 2 ^ j := Nat.mod_lt _ (Nat.two_pow_pos j)
  have hle : 2 ^ j ≤ 2 ^ (k.bits - 1) := Nat.pow_le_pow_right (by omega) (by omega)
  have hw : k.wrap ((a % 2 ^ j : Nat) : Int) = ((a % 2 ^ j : Nat) : Int) := by
    generalize a % 2 ^ j = m at *
    generalize 2 ^ j = q at *
    have : m < 2 ^ (k.bits - 1) := by omega
    cases k <;> simp [IntKind.wrap, IntKind.signed, IntKind.bits] at * <;> omega
  rw [hw]
  simp

theorem and15_u8 {n : Int} (h0 : 0 ≤ n) (h1 : n ≤ 255) : bits .and .u8 n 15 = n % 16 := bits_and_mask (k := .u8) 4 h0 (by simp; omega) (by decide)
theorem and15_i64 {n : Int} (h0 : 0 ≤ n) (h1 : n ≤ 9223372036854775807) : bits .and .i64 n 15 = n % 16 := bits_and_mask (k := .i64) 4 h0 (by simp; omega) (by decide)

@[simp] theorem afill_nil {place : Nat → Option (Nat × Nat)} {ρ : Operand → V} {cs : List V} {k : List V → Prop} : afill place ρ [] cs k ↔ k cs := Iff.rfl

@[simp] theorem afill_cons {place : Nat → Option (Nat × Nat)} {ρ : Operand → V} {i : Nat} {x : Operand} {r : List (Nat × Operand)} {cs : List V} {k : List V → Prop} :
    afill place ρ ((i, x) :: r) cs k ↔ match place i, vcells (ρ x) with
      | some p, some vs => vs.length = p.2 ∧ p.1 + p.2 ≤ cs.length ∧ afill place ρ r (lput cs p.1 vs) k
      | _, _ => False := by
  constructor
  · rintro ⟨off, sz, vs, h1, h2, h3⟩
    simp only [h1, h2]
    exact h3
  · intro h
    split at h
    · rename_i p vs h1 h2
      exact ⟨p.1, p.2, vs, h1, h2, h⟩
    · exact h.elim

theorem Views.at {rows : List Row} : ∀ {xs ys : List V}, Views rows xs ys → xs.length = ys.length ∧ ∀ (i : Nat) x y, xs[i]? = some x → ys[i]? = some y → View rows x y := fun h => h.get

theorem view_tup {rows : List Row} {c d : List V} (h : Views rows c d) : View rows (.tup c) (.tup d) := .tup h.get.1 h.get.2
theorem view_agg {rows : List Row} {c d : List V} (h : Views rows c d) : View rows (.agg c) (.agg d) := .agg h.get.1 h.get.2

end Go.VS
