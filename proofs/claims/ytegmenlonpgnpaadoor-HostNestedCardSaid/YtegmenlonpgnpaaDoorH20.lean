/-
  HOST: what lies within a base lies within what that base lies in; two bases with a name in common are nested.
  Conditions: none.
-/
import Derived.Test.YtegmenlonpgnpaaDoorH13
namespace Go.Proofs.YtegmenlonpgnpaaDoor
open Go.VS Go.Hst
set_option linter.all false

theorem low_dot (b : List UInt8) : low (46 :: b) = 46 :: low b := rfl
theorem eqB_iff {a b : List UInt8} : eqB a b = true ↔ low a = low b := by unfold eqB; exact beq_iff_eq
theorem endB_iff {s t : List UInt8} : endB s t = true ↔ low t <:+ low s := by unfold endB Lib.hasSuffix; exact List.isSuffixOf_iff_suffix
theorem low_nil {b : List UInt8} (h : low b = []) : b = [] := by
  unfold low at h
  exact List.map_eq_nil_iff.1 h

structure Wi (s b : List UInt8) : Prop where
  left : s = [] ∨ patB s = true
  base : baseB b = true
  wit : b = [] ∨ low s = low b ∨ (46 :: low b) <:+ low s
theorem within_iff {s b : List UInt8} : withinB s b = true ↔ Wi s b := by
  unfold withinB
  rw [Bool.and_eq_true, Bool.and_eq_true, Bool.or_eq_true, Bool.or_eq_true, Bool.or_eq_true, beq_iff_eq, beq_iff_eq, eqB_iff, endB_iff, low_dot]
  exact ⟨fun ⟨h1, h2, h3⟩ => ⟨h1, h2, h3⟩, fun ⟨h1, h2, h3⟩ => ⟨h1, h2, h3⟩⟩
theorem base_pat {b : List UInt8} (h : baseB b = true) : b = [] ∨ patB b = true := by
  unfold baseB at h
  rw [Bool.or_eq_true, beq_iff_eq] at h
  rcases h with h | h
  · exact .inl h
  · right
    unfold patB
    by_cases hp : Lib.hasPrefix b [42, 46] = true
    · obtain ⟨r, rfl⟩ := pre_iff.1 hp
      rw [dns_star] at h; cases h
    · rw [if_neg hp]; exact h

theorem within_trans {a b c : List UInt8} (h1 : withinB a b = true) (h2 : withinB b c = true) : withinB a c = true := by
  rw [within_iff] at h1 h2 ⊢
  refine ⟨h1.left, h2.base, ?_⟩
  rcases h2.wit with h | h | h
  · exact .inl h
  · rcases h1.wit with rfl | k | k
    · exact .inl (low_nil h.symm)
    · exact .inr (.inl (k.trans h))
    · exact .inr (.inr (h ▸ k))
  · right; right
    rcases h1.wit with rfl | k | k
    · have := h.length_le; simp [low] at this
    · rw [k]; exact h
    · exact h.trans ((List.suffix_cons 46 (low b)).trans k)

theorem within_nest {s x y : List UInt8} (h1 : withinB s x = true) (h2 : withinB s y = true) : withinB x y = true ∨ withinB y x = true := by
  rw [within_iff] at h1 h2
  simp only [within_iff]
  have px := base_pat h1.base
  have py := base_pat h2.base
  rcases h1.wit with rfl | h | h
  · exact .inr ⟨py, h1.base, .inl rfl⟩
  · exact .inl ⟨px, h2.base, by rw [← h]; exact h2.wit⟩
  rcases h2.wit with rfl | k | k
  · exact .inl ⟨px, h2.base, .inl rfl⟩
  · exact .inr ⟨py, h1.base, by rw [← k]; exact h1.wit⟩
  rcases List.suffix_or_suffix_of_suffix h k with e | e
  · rcases List.suffix_cons_iff.1 e with e | e
    · exact .inl ⟨px, h2.base, .inr (.inl (List.cons.inj e).2)⟩
    · exact .inr ⟨py, h1.base, .inr (.inr e)⟩
  · rcases List.suffix_cons_iff.1 e with e | e
    · exact .inl ⟨px, h2.base, .inr (.inl (List.cons.inj e).2.symm)⟩
    · exact .inl ⟨px, h2.base, .inr (.inr e)⟩

/-! ### Mail -/
theorem inB_iff {s b : List UInt8} : inB s b = true ↔ low s = low b ∨ (b.getD 0 0 = 46 ∧ low b <:+ low s) := by
  unfold inB
  rw [Bool.or_eq_true, Bool.and_eq_true, eqB_iff, endB_iff, beq_iff_eq]
theorem inB_low {s t b : List UInt8} (h : low s = low t) : inB s b = inB t b := by
  unfold inB eqB endB
  rw [h]
structure Mm (a b : List UInt8) : Prop where
  ma : mailB a = true
  mb : mailB b = true
  bef : befC 64 a = befC 64 b
  aft : low (aftC 64 a) = low (aftC 64 b)
theorem mmatch_iff {a b : List UInt8} : mmatchB a b = true ↔ Mm a b := by
  unfold mmatchB
  rw [Bool.and_eq_true, Bool.and_eq_true, Bool.and_eq_true, beq_iff_eq, eqB_iff]
  exact ⟨fun ⟨h1, h2, h3, h4⟩ => ⟨h1, h2, h3, h4⟩, fun ⟨h1, h2, h3, h4⟩ => ⟨h1, h2, h3, h4⟩⟩
structure Mw (s b : List UInt8) : Prop where
  base : mbaseB b = true
  self : mbaseB s = true
  wit : (mailB b = true ∧ Mm s b) ∨ (mailB b = false ∧ inB (domB s) b = true)
theorem mwithin_iff {s b : List UInt8} : mwithinB s b = true ↔ Mw s b := by
  unfold mwithinB
  rw [Bool.and_eq_true, Bool.and_eq_true]
  cases h : mailB b
  · rw [if_neg (by simp)]
    exact ⟨fun ⟨h1, h2, h3⟩ => ⟨h1, h2, .inr ⟨h, h3⟩⟩, fun ⟨h1, h2, h3⟩ => ⟨h1, h2, by rcases h3 with ⟨k, _⟩ | ⟨_, k⟩; (rw [h] at k; cases k); exact k⟩⟩
  · rw [if_pos rfl, mmatch_iff]
    exact ⟨fun ⟨h1, h2, h3⟩ => ⟨h1, h2, .inl ⟨h, h3⟩⟩, fun ⟨h1, h2, h3⟩ => ⟨h1, h2, by rcases h3 with ⟨_, k⟩ | ⟨k, _⟩; exact k; (rw [h] at k; cases k)⟩⟩
theorem dom_mail {s : List UInt8} (h : mailB s = true) : domB s = aftC 64 s := if_pos (mail_parts h).1
theorem dom_not {s : List UInt8} (h : mbaseB s = true) (hm : mailB s = false) : domB s = s := if_neg (mbase_noat h hm)
theorem head_low {y z : List UInt8} (h : low y = low z) (hy : y.getD 0 0 = 46) : z.getD 0 0 = 46 := by
  cases y with
  | nil => simp at hy
  | cons a y =>
    cases z with
    | nil => simp [low] at h
    | cons b z =>
      have ha : a = 46 := by simpa using hy
      subst ha
      have hb : lowB b = 46 := ((List.cons.inj h).1).symm.trans (by decide)
      have : b = 46 := by
        by_cases hr : 65 ≤ b.toNat ∧ b.toNat ≤ 90
        · have := lowB_up b hr
          rw [hb] at this
          have e : (46 : UInt8).toNat = 46 := rfl
          omega
        · rwa [lowB_id b hr] at hb
      simp [this]

theorem mwithin_trans {x y z : List UInt8} (h1 : mwithinB x y = true) (h2 : mwithinB y z = true) : mwithinB x z = true := by
  rw [mwithin_iff] at h1 h2 ⊢
  refine ⟨h2.base, h1.self, ?_⟩
  rcases h2.wit with ⟨hz, k⟩ | ⟨hz, k⟩
  · left
    rcases h1.wit with ⟨hy, j⟩ | ⟨hy, j⟩
    · exact ⟨hz, j.ma, hz, j.bef.trans k.bef, j.aft.trans k.aft⟩
    · rw [k.ma] at hy; cases hy
  · right
    refine ⟨hz, ?_⟩
    rcases h1.wit with ⟨hy, j⟩ | ⟨hy, j⟩
    · rw [dom_mail j.ma]
      rw [dom_mail hy] at k
      rw [inB_low j.aft]; exact k
    · rw [dom_not h2.self hy] at k
      rw [inB_iff] at j k ⊢
      rcases j with j | ⟨j1, j2⟩
      · rw [j]; exact k
      · rcases k with k | ⟨k1, k2⟩
        · exact .inr ⟨head_low k j1, k ▸ j2⟩
        · exact .inr ⟨k1, k2.trans j2⟩

theorem mail_of_at {m : List UInt8} (h : mbaseB m = true) (ha : 64 ∈ m) : mailB m = true := by
  cases hm : mailB m with
  | true => rfl
  | false => exact absurd ha (mbase_noat h hm)

theorem mwithin_nest {m p q : List UInt8} (ha : 64 ∈ m) (h1 : mwithinB m p = true) (h2 : mwithinB m q = true) : mwithinB p q = true ∨ mwithinB q p = true := by
  rw [mwithin_iff] at h1 h2
  simp only [mwithin_iff]
  have hm := mail_of_at h1.self ha
  rcases h1.wit with ⟨hp, j⟩ | ⟨hp, j⟩
  · left
    refine ⟨h2.base, h1.base, ?_⟩
    rcases h2.wit with ⟨hq, k⟩ | ⟨hq, k⟩
    · exact .inl ⟨hq, hp, hq, j.bef.symm.trans k.bef, j.aft.symm.trans k.aft⟩
    · rw [dom_mail hm] at k
      exact .inr ⟨hq, by rw [dom_mail hp, inB_low j.aft.symm]; exact k⟩
  rcases h2.wit with ⟨hq, k⟩ | ⟨hq, k⟩
  · right
    refine ⟨h1.base, h2.base, ?_⟩
    rw [dom_mail hm] at j
    exact .inr ⟨hp, by rw [dom_mail hq, inB_low k.aft.symm]; exact j⟩
  rw [inB_iff] at j k
  rcases j with j | ⟨j1, j2⟩
  · left
    exact ⟨h2.base, h1.base, .inr ⟨hq, by rw [dom_not h1.base hp, inB_iff, ← j]; exact k⟩⟩
  rcases k with k | ⟨k1, k2⟩
  · right
    exact ⟨h1.base, h2.base, .inr ⟨hp, by rw [dom_not h2.base hq, inB_iff, ← k]; exact .inr ⟨j1, j2⟩⟩⟩
  rcases List.suffix_or_suffix_of_suffix j2 k2 with e | e
  · right
    exact ⟨h1.base, h2.base, .inr ⟨hp, by rw [dom_not h2.base hq, inB_iff]; exact .inr ⟨j1, e⟩⟩⟩
  · left
    exact ⟨h2.base, h1.base, .inr ⟨hq, by rw [dom_not h1.base hp, inB_iff]; exact .inr ⟨k1, e⟩⟩⟩
end Go.Proofs.YtegmenlonpgnpaaDoor
