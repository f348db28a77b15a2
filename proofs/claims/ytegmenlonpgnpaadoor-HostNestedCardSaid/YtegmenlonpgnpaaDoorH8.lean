/-
  HOST: patterns, bases, what matches and what lies within.
  Conditions: none.
-/
import Derived.Test.YtegmenlonpgnpaaDoorH7
namespace Go.Proofs.YtegmenlonpgnpaaDoor
open Go.VS Go.Hst
set_option linter.all false
attribute [local irreducible] arun arunD arunU AWp aend

/-! ### Plain -/
theorem dns_parts {s : List UInt8} (h : dnsB s = true) : s.length ≤ 128 ∧ ∀ p ∈ splitC 46 s, labelB p = true := by
  simp only [dnsB, Bool.and_eq_true, decide_eq_true_eq, List.all_eq_true] at h
  exact h
theorem label_parts {l : List UInt8} (h : labelB l = true) : l ≠ [] ∧ ∀ c ∈ l, okL c = true := by
  simp only [labelB, Bool.and_eq_true, decide_eq_true_eq, List.all_eq_true] at h
  exact ⟨fun e => by subst e; simp at h, h.2.2.2.2⟩
theorem dns_chars {s : List UInt8} (h : dnsB s = true) : ∀ x ∈ s, x = 46 ∨ okL x = true := by
  intro x hx
  rcases splitC_mem 46 s x hx with h1 | ⟨p, h1, h2⟩
  · exact .inl h1
  · exact .inr ((label_parts ((dns_parts h).2 p h1)).2 x h2)
theorem dns_nil : dnsB [] = false := rfl
theorem dns_dot (l : List UInt8) : dnsB (46 :: l) = false := by
  cases h : dnsB (46 :: l) with
  | false => rfl
  | true =>
    have := (dns_parts h).2 [] (by simp [splitC])
    exact absurd this (by decide)
theorem dns_bad {s : List UInt8} (c : UInt8) (h1 : c ≠ 46) (h2 : okL c = false) (hm : c ∈ s) : dnsB s = false := by
  cases h : dnsB s with
  | false => rfl
  | true =>
    rcases dns_chars h c hm with h3 | h3
    · exact absurd h3 h1
    · rw [h2] at h3; cases h3
theorem dns_star (l : List UInt8) : dnsB (42 :: l) = false := dns_bad 42 (by decide) (by decide) (by simp)

def baseB (b : List UInt8) : Bool := b == [] || dnsB b
def patS (s : List UInt8) : Bool := decide (s.length ≤ 128) && (dnsB (Lib.trimPrefix s [42, 46]) && decide (46 ∈ Lib.trimPrefix s [42, 46]))
def patB (s : List UInt8) : Bool := if Lib.hasPrefix s [42, 46] = true then patS s else dnsB s
theorem pre_iff {s : List UInt8} : Lib.hasPrefix s [42, 46] = true ↔ ∃ r, s = 42 :: 46 :: r := by
  unfold Lib.hasPrefix
  rw [List.isPrefixOf_iff_prefix]
  constructor
  · rintro ⟨r, rfl⟩; exact ⟨r, rfl⟩
  · rintro ⟨r, rfl⟩; exact ⟨r, rfl⟩
theorem pre_tail (r : List UInt8) : Lib.trimPrefix (42 :: 46 :: r) [42, 46] = r := by
  unfold Lib.trimPrefix
  rw [if_pos (pre_iff.2 ⟨r, rfl⟩)]
  rfl
def rpatB (s : List UInt8) : Bool := dnsB s || (decide (s.length ≤ 128) && (decide (2 < s.length) && (s.take 2 == [42, 46] && (dnsB (s.drop 2) && decide (2 < (splitC 46 s).length)))))
theorem rpat_eq (s : List UInt8) : rpatB s = patB s := by
  unfold rpatB patB
  by_cases hp : Lib.hasPrefix s [42, 46] = true
  · obtain ⟨r, rfl⟩ := pre_iff.1 hp
    rw [if_pos hp, patS, pre_tail, dns_star]
    simp only [Bool.false_or]
    congr 1
    have h2 : (List.take 2 (42 :: 46 :: r) == [42, 46]) = true := by simp
    have h3 : List.drop 2 (42 :: 46 :: r) = r := rfl
    rw [h2, h3, splitC_len]
    have h4 : (42 :: 46 :: r : List UInt8).count 46 = r.count 46 + 1 := by
      rw [List.count_cons_of_ne (by decide), List.count_cons_self]
    rw [h4]
    cases hd : dnsB r
    · simp
    · have hne : r ≠ [] := fun e => by subst e; simp [dns_nil] at hd
      have := List.length_pos_iff.2 hne
      have h5 : decide (2 < (42 :: 46 :: r : List UInt8).length) = true := by simp; omega
      rw [h5]
      simp only [Bool.true_and]
      by_cases hm : 46 ∈ r
      · have := List.count_pos_iff.2 hm
        simp [hm]
      · have := List.count_eq_zero.2 hm
        simp [hm, this]
  · rw [if_neg hp]
    have : (s.take 2 == [42, 46]) = false := by
      cases h : (s.take 2 == [42, 46]) with
      | false => rfl
      | true =>
        exfalso
        apply hp
        refine pre_iff.2 ⟨s.drop 2, ?_⟩
        have h := beq_iff_eq.1 h
        conv => lhs; rw [← List.take_append_drop 2 s, h]
        rfl
    rw [this]
    simp
theorem pat_head {s : List UInt8} (h : patB s = true) : s ≠ [] := by
  rintro rfl
  exact absurd h (by decide)
def withinB (s b : List UInt8) : Bool := (s == [] || patB s) && (baseB b && (b == [] || (eqB s b || endB s (46 :: b))))
def matchB (p s : List UInt8) : Bool := patB p && (dnsB s && (eqB p s || (Lib.hasPrefix p [42, 46] && (decide (46 ∈ s) && eqB (aftC 46 s) (Lib.trimPrefix p [42, 46])))))
theorem splitC_head (c : UInt8) : ∀ s : List UInt8, ∃ t, splitC c s = befC c s :: t
  | [] => ⟨[], rfl⟩
  | b :: l => by
    obtain ⟨t, ht⟩ := splitC_head c l
    unfold splitC
    by_cases hb : b = c
    · subst hb; exact ⟨splitC b l, by simp [befC]⟩
    · rw [if_neg hb, ht]
      exact ⟨t, by simp [befC, hb]⟩
theorem bef_lt (c : UInt8) (s : List UInt8) : (befC c s).length < s.length ↔ c ∈ s := by
  constructor
  · intro h
    by_cases hm : c ∈ s
    · exact hm
    · rw [bef_all c s hm] at h; omega
  · intro hm
    have := congrArg List.length (bef_aft c s hm)
    simp at this
    omega
theorem low_cons (c : UInt8) (l : List UInt8) : low (c :: l) = lowB c :: low l := rfl
theorem lowB_star (c : UInt8) : lowB c = 42 ↔ c = 42 := by
  by_cases h : 65 ≤ c.toNat ∧ c.toNat ≤ 90
  · have := lowB_up c h
    constructor
    · intro e; rw [e] at this; have : (42 : UInt8).toNat = 42 := rfl; omega
    · rintro rfl; exact absurd h (by decide)
  · rw [lowB_id c h]
def rmatchB (p s : List UInt8) : Bool := patB p && (dnsB s && (if p.getD 0 0 = 42 then decide ((befC 46 s).length < s.length) && eqB (s.drop (befC 46 s).length) (p.drop 1) else eqB p s))
theorem rmatch_eq (p s : List UInt8) : rmatchB p s = matchB p s := by
  unfold rmatchB matchB
  cases hp : patB p
  · rfl
  cases hs : dnsB s
  · rfl
  simp only [Bool.true_and]
  by_cases h : p.getD 0 0 = 42
  · rw [if_pos h]
    have hpre : Lib.hasPrefix p [42, 46] = true := by
      cases hq : Lib.hasPrefix p [42, 46] with
      | true => rfl
      | false =>
        rw [patB, if_neg (by simp [hq])] at hp
        match p, h, hp with
        | [], h, _ => simp at h
        | a :: l, h, hp =>
          have : a = 42 := by simpa using h
          subst this
          rw [dns_star] at hp; cases hp
    obtain ⟨r, rfl⟩ := pre_iff.1 hpre
    rw [hpre, pre_tail]
    have hne : eqB (42 :: 46 :: r) s = false := by
      cases he : eqB (42 :: 46 :: r) s with
      | false => rfl
      | true =>
        exfalso
        have he := beq_iff_eq.1 he
        match s, he, hs with
        | [], he, hs => simp [low] at he
        | c :: t, he, hs =>
          rw [low_cons, low_cons] at he
          have hc := (lowB_star c).1 ((List.cons.inj he).1 ▸ by decide)
          subst hc
          rw [dns_star] at hs; cases hs
    rw [hne]
    simp only [Bool.false_or, Bool.true_and]
    by_cases hm : 46 ∈ s
    · have h1 : decide ((befC 46 s).length < s.length) = true := by simpa using (bef_lt 46 s).2 hm
      have hd : s.drop (befC 46 s).length = 46 :: aftC 46 s := by
        conv => lhs; arg 2; rw [bef_aft 46 s hm]
        simp
      rw [h1, hd]
      simp only [hm, decide_true, Bool.true_and, List.drop_succ_cons, List.drop_zero]
      unfold eqB
      rw [low_cons, low_cons]
      simp
    · have h1 : decide ((befC 46 s).length < s.length) = false := by simpa using fun h => hm ((bef_lt 46 s).1 h)
      rw [h1]
      simp [hm]
  · rw [if_neg h]
    have hpre : Lib.hasPrefix p [42, 46] = false := by
      cases hq : Lib.hasPrefix p [42, 46] with
      | false => rfl
      | true => obtain ⟨r, rfl⟩ := pre_iff.1 hq; simp at h
    rw [hpre]
    simp

/-! ### Walks -/
theorem base_call (b : List UInt8) (hb : b.length ≤ 1000000) : PCall Tryd.prog 17 [.str b] (.bool (baseB b)) := by
  refine pcall_body Tryd.func17 rfl Tryd.call17 ?_ ?_
  rotate_left 1
  refine awp_slots (s' := [(.str b : V), .junk, .junk, .junk, .junk, .junk, .junk, .junk, .junk]) rfl ?_
  by_cases h : b = []
  · subst h
    repeat' (first
    | ((first | refine arunU_go0 rfl fun K9 h9 => ?_ | (refine arunU_go ?_ ?_; (focus (simp ; done)); intro K9 h9)); simp (disch := (first | (simp; done) | omega | (simp; omega))) ; (try simp (disch := (first | omega | (simp; omega))) only [wrap_i64, wrap_u8, wrap_u32, wrap_u64, Int.tmod_eq_emod_of_nonneg, Int.tdiv_eq_ediv_of_nonneg]); (repeat (refine And.intro (by first | omega | (simp; first | done | omega) | assumption | (intro e9; have e8 := congrArg List.length e9; first | (simp at e8; done) | ((try simp only [List.length_map, List.length_append] at e8); rw [List.length_nil] at e8; omega))) ?_)); (first | refine h9 _ _ (arunU_slots (by first | (dsimp only [sput, sset]; done) | rfl) ?_)); clear h9 K9)
    | (refine arunU_end ?_)
    | (refine awp_seq fun K hK => ?_)
    | (refine awp_regionU ?_)
    | (refine hK _ _ ?_; clear hK K)
    | (refine awp_ret ?_; refine ret_go ?_)
    | (refine arunU_no ?_ ?_; (focus (simp ; done)); refine arunU_slots (by first | (dsimp only [sput, sset]; done) | rfl) ?_)
    | (refine fall_go ?_)
    | (simp only [athen_normal, athen_exit, athen_ret, ablock_self, ablock_ne, ablock_normal, ablock_ret, Nat.reduceBEq])
    | (clear hK K; refine hK _ _ ?_; clear hK K)
    | (clear hK K; clear hK K; refine hK _ _ ?_; clear hK K)
    | (clear hK K; clear hK K; clear hK K; refine hK _ _ ?_; clear hK K)
    | (clear hK K; clear hK K; clear hK K; clear hK K; refine hK _ _ ?_; clear hK K)
    | (clear hK K; clear hK K; clear hK K; clear hK K; clear hK K; refine hK _ _ ?_; clear hK K))
    exact .pure .bool
  · have hd := dns_call b (by omega)
    have e : (b == []) = false := by simpa using h
    repeat' (first
    | ((first | refine arunU_go0 rfl fun K9 h9 => ?_ | (refine arunU_go ?_ ?_; (focus (simp [h, e]; done)); intro K9 h9)); simp (disch := (first | (simp; done) | omega | (simp; omega))) [h, e]; (try simp (disch := (first | omega | (simp; omega))) only [wrap_i64, wrap_u8, wrap_u32, wrap_u64, Int.tmod_eq_emod_of_nonneg, Int.tdiv_eq_ediv_of_nonneg]); (first | refine acall_pure (hd) (by simp) ?_ | skip); (repeat (refine And.intro (by first | omega | (simp; first | done | omega) | assumption | (intro e9; have e8 := congrArg List.length e9; first | (simp at e8; done) | ((try simp only [List.length_map, List.length_append] at e8); rw [List.length_nil] at e8; omega))) ?_)); (first | refine h9 _ _ (arunU_slots (by first | (dsimp only [sput, sset]; done) | rfl) ?_)); clear h9 K9)
    | (refine arunU_end ?_)
    | (refine awp_seq fun K hK => ?_)
    | (refine awp_regionU ?_)
    | (refine hK _ _ ?_; clear hK K)
    | (refine awp_ret ?_; refine ret_go ?_)
    | (refine arunU_no ?_ ?_; (focus (simp [h, e]; done)); refine arunU_slots (by first | (dsimp only [sput, sset]; done) | rfl) ?_)
    | (refine fall_go ?_)
    | (simp only [athen_normal, athen_exit, athen_ret, ablock_self, ablock_ne, ablock_normal, ablock_ret, Nat.reduceBEq])
    | (clear hK K; refine hK _ _ ?_; clear hK K)
    | (clear hK K; clear hK K; refine hK _ _ ?_; clear hK K)
    | (clear hK K; clear hK K; clear hK K; refine hK _ _ ?_; clear hK K)
    | (clear hK K; clear hK K; clear hK K; clear hK K; refine hK _ _ ?_; clear hK K)
    | (clear hK K; clear hK K; clear hK K; clear hK K; clear hK K; refine hK _ _ ?_; clear hK K))
    rw [baseB, e]
    exact .pure .bool
  · exact .bool
theorem rbase_call (b : List UInt8) (hb : b.length ≤ 1000000) : PCall Tryd.prog 18 [.str b] (.bool (baseB b)) := by
  refine pcall_body Tryd.func18 rfl Tryd.call18 ?_ ?_
  rotate_left 1
  refine awp_slots (s' := [(.str b : V), .junk, .junk, .junk, .junk, .junk, .junk, .junk, .junk]) rfl ?_
  by_cases h : b = []
  · subst h
    repeat' (first
    | ((first | refine arunU_go0 rfl fun K9 h9 => ?_ | (refine arunU_go ?_ ?_; (focus (simp ; done)); intro K9 h9)); simp (disch := (first | (simp; done) | omega | (simp; omega))) ; (try simp (disch := (first | omega | (simp; omega))) only [wrap_i64, wrap_u8, wrap_u32, wrap_u64, Int.tmod_eq_emod_of_nonneg, Int.tdiv_eq_ediv_of_nonneg]); (repeat (refine And.intro (by first | omega | (simp; first | done | omega) | assumption | (intro e9; have e8 := congrArg List.length e9; first | (simp at e8; done) | ((try simp only [List.length_map, List.length_append] at e8); rw [List.length_nil] at e8; omega))) ?_)); (first | refine h9 _ _ (arunU_slots (by first | (dsimp only [sput, sset]; done) | rfl) ?_)); clear h9 K9)
    | (refine arunU_end ?_)
    | (refine awp_seq fun K hK => ?_)
    | (refine awp_regionU ?_)
    | (refine hK _ _ ?_; clear hK K)
    | (refine awp_ret ?_; refine ret_go ?_)
    | (refine arunU_no ?_ ?_; (focus (simp ; done)); refine arunU_slots (by first | (dsimp only [sput, sset]; done) | rfl) ?_)
    | (refine fall_go ?_)
    | (simp only [athen_normal, athen_exit, athen_ret, ablock_self, ablock_ne, ablock_normal, ablock_ret, Nat.reduceBEq])
    | (clear hK K; refine hK _ _ ?_; clear hK K)
    | (clear hK K; clear hK K; refine hK _ _ ?_; clear hK K)
    | (clear hK K; clear hK K; clear hK K; refine hK _ _ ?_; clear hK K)
    | (clear hK K; clear hK K; clear hK K; clear hK K; refine hK _ _ ?_; clear hK K)
    | (clear hK K; clear hK K; clear hK K; clear hK K; clear hK K; refine hK _ _ ?_; clear hK K))
    exact .pure .bool
  · have e : (b == []) = false := by simpa using h
    repeat' (first
    | ((first | refine arunU_go0 rfl fun K9 h9 => ?_ | (refine arunU_go ?_ ?_; (focus (simp [h, e]; done)); intro K9 h9)); simp (disch := (first | (simp; done) | omega | (simp; omega))) [h, e]; (try simp (disch := (first | omega | (simp; omega))) only [wrap_i64, wrap_u8, wrap_u32, wrap_u64, Int.tmod_eq_emod_of_nonneg, Int.tdiv_eq_ediv_of_nonneg]); (first | refine acall_pure (rdns_call b hb) (by simp) ?_ | skip); (repeat (refine And.intro (by first | omega | (simp; first | done | omega) | assumption | (intro e9; have e8 := congrArg List.length e9; first | (simp at e8; done) | ((try simp only [List.length_map, List.length_append] at e8); rw [List.length_nil] at e8; omega))) ?_)); (first | refine h9 _ _ (arunU_slots (by first | (dsimp only [sput, sset]; done) | rfl) ?_)); clear h9 K9)
    | (refine arunU_end ?_)
    | (refine awp_seq fun K hK => ?_)
    | (refine awp_regionU ?_)
    | (refine hK _ _ ?_; clear hK K)
    | (refine awp_ret ?_; refine ret_go ?_)
    | (refine arunU_no ?_ ?_; (focus (simp [h, e]; done)); refine arunU_slots (by first | (dsimp only [sput, sset]; done) | rfl) ?_)
    | (refine fall_go ?_)
    | (simp only [athen_normal, athen_exit, athen_ret, ablock_self, ablock_ne, ablock_normal, ablock_ret, Nat.reduceBEq])
    | (clear hK K; refine hK _ _ ?_; clear hK K)
    | (clear hK K; clear hK K; refine hK _ _ ?_; clear hK K)
    | (clear hK K; clear hK K; clear hK K; refine hK _ _ ?_; clear hK K)
    | (clear hK K; clear hK K; clear hK K; clear hK K; refine hK _ _ ?_; clear hK K)
    | (clear hK K; clear hK K; clear hK K; clear hK K; clear hK K; refine hK _ _ ?_; clear hK K))
    rw [baseB, e]
    exact .pure .bool
  · exact .bool

theorem trimPrefix_len (s p : List UInt8) : (Lib.trimPrefix s p).length ≤ s.length := by
  unfold Lib.trimPrefix; split <;> simp
theorem pattern_call (s : List UInt8) (hs : s.length ≤ 1000000) : PCall Tryd.prog 15 [.str s] (.bool (patB s)) := by
  refine pcall_body Tryd.func15 rfl Tryd.call15 ?_ ?_
  rotate_left 1
  refine awp_slots (s' := [(.str s : V), .junk, .junk, .junk, .junk, .junk, .junk, .junk, .junk, .junk, .junk, .junk, .junk, .junk, .junk, .junk, .junk, .junk, .junk, .junk, .junk, .junk, .junk, .junk]) rfl ?_
  have hl := trimPrefix_len s [42, 46]
  have hc := cutPrefix_call s [42, 46]
  have hk := contains_call (Lib.trimPrefix s [42, 46]) [46] (by omega)
  rw [contains_one] at hk
  have hd1 := dns_call (Lib.trimPrefix s [42, 46]) (by omega)
  have hd2 := dns_call s (by omega)
  unfold patB patS
  generalize Lib.trimPrefix s [42, 46] = r at *
  cases hp : Lib.hasPrefix s [42, 46]
  · repeat' (first
    | ((first | refine arunU_go0 rfl fun K9 h9 => ?_ | (refine arunU_go ?_ ?_; (focus (simp [hp]; done)); intro K9 h9)); simp (disch := (first | (simp; done) | omega | (simp; omega))) [hp]; (try simp (disch := (first | omega | (simp; omega))) only [wrap_i64, wrap_u8, wrap_u32, wrap_u64, Int.tmod_eq_emod_of_nonneg, Int.tdiv_eq_ediv_of_nonneg]); (first | refine acall_pure (hc) (by simp) ?_ | refine acall_pure (hd2) (by simp) ?_ | skip); (repeat (refine And.intro (by first | omega | (simp; first | done | omega) | assumption | (intro e9; have e8 := congrArg List.length e9; first | (simp at e8; done) | ((try simp only [List.length_map, List.length_append] at e8); rw [List.length_nil] at e8; omega))) ?_)); (first | refine h9 _ _ (arunU_slots (by first | (dsimp only [sput, sset]; done) | rfl) ?_)); clear h9 K9)
    | (refine arunU_end ?_)
    | (refine awp_seq fun K hK => ?_)
    | (refine awp_regionU ?_)
    | (refine hK _ _ ?_; clear hK K)
    | (refine awp_cond rfl (fun hcnd => ?_) (fun hcnd => ?_) <;> (try simp at hcnd) <;> (try contradiction) <;> (try (exfalso; omega)))
    | (refine awp_skip ?_)
    | (refine awp_ret ?_; refine ret_go ?_)
    | (refine arunU_no ?_ ?_; (focus (simp [hp]; done)); refine arunU_slots (by first | (dsimp only [sput, sset]; done) | rfl) ?_)
    | (refine fall_go ?_)
    | (simp only [athen_normal, athen_exit, athen_ret, ablock_self, ablock_ne, ablock_normal, ablock_ret, Nat.reduceBEq])
    | (clear hK K; refine hK _ _ ?_; clear hK K)
    | (clear hK K; clear hK K; refine hK _ _ ?_; clear hK K)
    | (clear hK K; clear hK K; clear hK K; refine hK _ _ ?_; clear hK K)
    | (clear hK K; clear hK K; clear hK K; clear hK K; refine hK _ _ ?_; clear hK K)
    | (clear hK K; clear hK K; clear hK K; clear hK K; clear hK K; refine hK _ _ ?_; clear hK K))
    exact .pure .bool
  · by_cases h1 : (s.length : Int) ≤ 128
    · have h1' : decide (s.length ≤ 128) = true := by simp; omega
      rw [h1']
      cases hd : dnsB r
      · repeat' (first
    | ((first | refine arunU_go0 rfl fun K9 h9 => ?_ | (refine arunU_go ?_ ?_; (focus (simp [hp, h1, hd]; done)); intro K9 h9)); simp (disch := (first | (simp; done) | omega | (simp; omega))) [hp, h1, hd]; (try simp (disch := (first | omega | (simp; omega))) only [wrap_i64, wrap_u8, wrap_u32, wrap_u64, Int.tmod_eq_emod_of_nonneg, Int.tdiv_eq_ediv_of_nonneg]); (first | refine acall_pure (hc) (by simp) ?_ | refine acall_pure (hd1) (by simp) ?_ | refine acall_pure (hk) (by simp) ?_ | skip); (repeat (refine And.intro (by first | omega | (simp; first | done | omega) | assumption | (intro e9; have e8 := congrArg List.length e9; first | (simp at e8; done) | ((try simp only [List.length_map, List.length_append] at e8); rw [List.length_nil] at e8; omega))) ?_)); (first | refine h9 _ _ (arunU_slots (by first | (dsimp only [sput, sset]; done) | rfl) ?_)); clear h9 K9)
    | (refine arunU_end ?_)
    | (refine awp_seq fun K hK => ?_)
    | (refine awp_regionU ?_)
    | (refine hK _ _ ?_; clear hK K)
    | (refine awp_cond rfl (fun hcnd => ?_) (fun hcnd => ?_) <;> (try simp at hcnd) <;> (try contradiction) <;> (try (exfalso; omega)))
    | (refine awp_skip ?_)
    | (refine awp_ret ?_; refine ret_go ?_)
    | (refine arunU_no ?_ ?_; (focus (simp [hp, h1, hd]; done)); refine arunU_slots (by first | (dsimp only [sput, sset]; done) | rfl) ?_)
    | (refine fall_go ?_)
    | (simp only [athen_normal, athen_exit, athen_ret, ablock_self, ablock_ne, ablock_normal, ablock_ret, Nat.reduceBEq])
    | (clear hK K; refine hK _ _ ?_; clear hK K)
    | (clear hK K; clear hK K; refine hK _ _ ?_; clear hK K)
    | (clear hK K; clear hK K; clear hK K; refine hK _ _ ?_; clear hK K)
    | (clear hK K; clear hK K; clear hK K; clear hK K; refine hK _ _ ?_; clear hK K)
    | (clear hK K; clear hK K; clear hK K; clear hK K; clear hK K; refine hK _ _ ?_; clear hK K))
        exact .pure .bool
      · repeat' (first
    | ((first | refine arunU_go0 rfl fun K9 h9 => ?_ | (refine arunU_go ?_ ?_; (focus (simp [hp, h1, hd]; done)); intro K9 h9)); simp (disch := (first | (simp; done) | omega | (simp; omega))) [hp, h1, hd]; (try simp (disch := (first | omega | (simp; omega))) only [wrap_i64, wrap_u8, wrap_u32, wrap_u64, Int.tmod_eq_emod_of_nonneg, Int.tdiv_eq_ediv_of_nonneg]); (first | refine acall_pure (hc) (by simp) ?_ | refine acall_pure (hd1) (by simp) ?_ | refine acall_pure (hk) (by simp) ?_ | skip); (repeat (refine And.intro (by first | omega | (simp; first | done | omega) | assumption | (intro e9; have e8 := congrArg List.length e9; first | (simp at e8; done) | ((try simp only [List.length_map, List.length_append] at e8); rw [List.length_nil] at e8; omega))) ?_)); (first | refine h9 _ _ (arunU_slots (by first | (dsimp only [sput, sset]; done) | rfl) ?_)); clear h9 K9)
    | (refine arunU_end ?_)
    | (refine awp_seq fun K hK => ?_)
    | (refine awp_regionU ?_)
    | (refine hK _ _ ?_; clear hK K)
    | (refine awp_cond rfl (fun hcnd => ?_) (fun hcnd => ?_) <;> (try simp at hcnd) <;> (try contradiction) <;> (try (exfalso; omega)))
    | (refine awp_skip ?_)
    | (refine awp_ret ?_; refine ret_go ?_)
    | (refine arunU_no ?_ ?_; (focus (simp [hp, h1, hd]; done)); refine arunU_slots (by first | (dsimp only [sput, sset]; done) | rfl) ?_)
    | (refine fall_go ?_)
    | (simp only [athen_normal, athen_exit, athen_ret, ablock_self, ablock_ne, ablock_normal, ablock_ret, Nat.reduceBEq])
    | (clear hK K; refine hK _ _ ?_; clear hK K)
    | (clear hK K; clear hK K; refine hK _ _ ?_; clear hK K)
    | (clear hK K; clear hK K; clear hK K; refine hK _ _ ?_; clear hK K)
    | (clear hK K; clear hK K; clear hK K; clear hK K; refine hK _ _ ?_; clear hK K)
    | (clear hK K; clear hK K; clear hK K; clear hK K; clear hK K; refine hK _ _ ?_; clear hK K))
        exact .pure .bool
    · have h1' : decide (s.length ≤ 128) = false := by simp; omega
      rw [h1']
      repeat' (first
    | ((first | refine arunU_go0 rfl fun K9 h9 => ?_ | (refine arunU_go ?_ ?_; (focus (simp [hp, h1]; done)); intro K9 h9)); simp (disch := (first | (simp; done) | omega | (simp; omega))) [hp, h1]; (try simp (disch := (first | omega | (simp; omega))) only [wrap_i64, wrap_u8, wrap_u32, wrap_u64, Int.tmod_eq_emod_of_nonneg, Int.tdiv_eq_ediv_of_nonneg]); (first | refine acall_pure (hc) (by simp) ?_ | refine acall_pure (hd1) (by simp) ?_ | refine acall_pure (hk) (by simp) ?_ | skip); (repeat (refine And.intro (by first | omega | (simp; first | done | omega) | assumption | (intro e9; have e8 := congrArg List.length e9; first | (simp at e8; done) | ((try simp only [List.length_map, List.length_append] at e8); rw [List.length_nil] at e8; omega))) ?_)); (first | refine h9 _ _ (arunU_slots (by first | (dsimp only [sput, sset]; done) | rfl) ?_)); clear h9 K9)
    | (refine arunU_end ?_)
    | (refine awp_seq fun K hK => ?_)
    | (refine awp_regionU ?_)
    | (refine hK _ _ ?_; clear hK K)
    | (refine awp_cond rfl (fun hcnd => ?_) (fun hcnd => ?_) <;> (try simp at hcnd) <;> (try contradiction) <;> (try (exfalso; omega)))
    | (refine awp_skip ?_)
    | (refine awp_ret ?_; refine ret_go ?_)
    | (refine arunU_no ?_ ?_; (focus (simp [hp, h1]; done)); refine arunU_slots (by first | (dsimp only [sput, sset]; done) | rfl) ?_)
    | (refine fall_go ?_)
    | (simp only [athen_normal, athen_exit, athen_ret, ablock_self, ablock_ne, ablock_normal, ablock_ret, Nat.reduceBEq])
    | (clear hK K; refine hK _ _ ?_; clear hK K)
    | (clear hK K; clear hK K; refine hK _ _ ?_; clear hK K)
    | (clear hK K; clear hK K; clear hK K; refine hK _ _ ?_; clear hK K)
    | (clear hK K; clear hK K; clear hK K; clear hK K; refine hK _ _ ?_; clear hK K)
    | (clear hK K; clear hK K; clear hK K; clear hK K; clear hK K; refine hK _ _ ?_; clear hK K))
      exact .pure .bool
  · exact .bool

theorem rpattern_call (s : List UInt8) (hs : s.length ≤ 1000000) : PCall Tryd.prog 16 [.str s] (.bool (patB s)) := by
  rw [← rpat_eq]
  refine pcall_body Tryd.func16 rfl Tryd.call16 ?_ ?_
  rotate_left 1
  refine awp_slots (s' := [(.str s : V), .junk, .junk, .junk, .junk, .junk, .junk, .junk, .junk, .junk, .junk, .junk, .junk, .junk, .junk, .junk, .junk, .junk, .junk, .junk, .junk, .junk, .junk, .junk, .junk, .junk, .junk, .junk, .junk, .junk, .junk]) rfl ?_
  have hd1 := rdns_call s hs
  have hd2 := rdns_call (s.drop 2) (by simp; omega)
  have hsp := rsplit_call s 46 hs
  rw [show byteV 46 = .int .u8 46 from rfl] at hsp
  unfold rpatB
  cases h0 : dnsB s
  · by_cases h1 : (s.length : Int) ≤ 128
    · have h1' : decide (s.length ≤ 128) = true := by simp; omega
      rw [h1']
      by_cases h2 : (2 : Int) < s.length
      · have h2' : decide (2 < s.length) = true := by simp; omega
        rw [h2']
        cases h3 : (s.take 2 == [42, 46])
        · repeat' (first
    | ((first | refine arunU_go0 rfl fun K9 h9 => ?_ | (refine arunU_go ?_ ?_; (focus (simp [h0, h1, h2, h3]; done)); intro K9 h9)); simp (disch := (first | (simp; done) | omega | (simp; omega))) [h0, h1, h2, h3]; (try simp (disch := (first | omega | (simp; omega))) only [wrap_i64, wrap_u8, wrap_u32, wrap_u64, Int.tmod_eq_emod_of_nonneg, Int.tdiv_eq_ediv_of_nonneg]); (first | refine acall_pure (hd1) (by simp) ?_ | refine acall_pure (hd2) (by simp) ?_ | refine acall_pure (hsp) (by simp) ?_ | skip); (repeat (refine And.intro (by first | omega | (simp; first | done | omega) | assumption | (intro e9; have e8 := congrArg List.length e9; first | (simp at e8; done) | ((try simp only [List.length_map, List.length_append] at e8); rw [List.length_nil] at e8; omega))) ?_)); (first | refine h9 _ _ (arunU_slots (by first | (dsimp only [sput, sset]; done) | rfl) ?_)); clear h9 K9)
    | (refine arunU_end ?_)
    | (refine awp_seq fun K hK => ?_)
    | (refine awp_regionU ?_)
    | (refine hK _ _ ?_; clear hK K)
    | (refine awp_ret ?_; refine ret_go ?_)
    | (refine arunU_no ?_ ?_; (focus (simp [h0, h1, h2, h3]; done)); refine arunU_slots (by first | (dsimp only [sput, sset]; done) | rfl) ?_)
    | (refine fall_go ?_)
    | (simp only [athen_normal, athen_exit, athen_ret, ablock_self, ablock_ne, ablock_normal, ablock_ret, Nat.reduceBEq])
    | (clear hK K; refine hK _ _ ?_; clear hK K)
    | (clear hK K; clear hK K; refine hK _ _ ?_; clear hK K)
    | (clear hK K; clear hK K; clear hK K; refine hK _ _ ?_; clear hK K)
    | (clear hK K; clear hK K; clear hK K; clear hK K; refine hK _ _ ?_; clear hK K)
    | (clear hK K; clear hK K; clear hK K; clear hK K; clear hK K; refine hK _ _ ?_; clear hK K))
          exact .pure .bool
        · cases h4 : dnsB (s.drop 2)
          · repeat' (first
    | ((first | refine arunU_go0 rfl fun K9 h9 => ?_ | (refine arunU_go ?_ ?_; (focus (simp [h0, h1, h2, h3, h4, List.take_of_length_le]; done)); intro K9 h9)); simp (disch := (first | (simp; done) | omega | (simp; omega))) [h0, h1, h2, h3, h4, List.take_of_length_le]; (try simp (disch := (first | omega | (simp; omega))) only [wrap_i64, wrap_u8, wrap_u32, wrap_u64, Int.tmod_eq_emod_of_nonneg, Int.tdiv_eq_ediv_of_nonneg]); (first | refine acall_pure (hd1) (by simp) ?_ | refine acall_pure (hd2) (by simp) ?_ | refine acall_pure (hsp) (by simp) ?_ | skip); (repeat (refine And.intro (by first | omega | (simp; first | done | omega) | assumption | (intro e9; have e8 := congrArg List.length e9; first | (simp at e8; done) | ((try simp only [List.length_map, List.length_append] at e8); rw [List.length_nil] at e8; omega))) ?_)); (first | refine h9 _ _ (arunU_slots (by first | (dsimp only [sput, sset]; done) | rfl) ?_)); clear h9 K9)
    | (refine arunU_end ?_)
    | (refine awp_seq fun K hK => ?_)
    | (refine awp_regionU ?_)
    | (refine hK _ _ ?_; clear hK K)
    | (refine awp_ret ?_; refine ret_go ?_)
    | (refine arunU_no ?_ ?_; (focus (simp [h0, h1, h2, h3, h4, List.take_of_length_le]; done)); refine arunU_slots (by first | (dsimp only [sput, sset]; done) | rfl) ?_)
    | (refine fall_go ?_)
    | (simp only [athen_normal, athen_exit, athen_ret, ablock_self, ablock_ne, ablock_normal, ablock_ret, Nat.reduceBEq])
    | (clear hK K; refine hK _ _ ?_; clear hK K)
    | (clear hK K; clear hK K; refine hK _ _ ?_; clear hK K)
    | (clear hK K; clear hK K; clear hK K; refine hK _ _ ?_; clear hK K)
    | (clear hK K; clear hK K; clear hK K; clear hK K; refine hK _ _ ?_; clear hK K)
    | (clear hK K; clear hK K; clear hK K; clear hK K; clear hK K; refine hK _ _ ?_; clear hK K))
            exact .pure .bool
          · have hcast : decide ((2 : Int) < (splitC 46 s).length) = decide (2 < (splitC 46 s).length) := by simp; omega
            repeat' (first
    | ((first | refine arunU_go0 rfl fun K9 h9 => ?_ | (refine arunU_go ?_ ?_; (focus (simp [h0, h1, h2, h3, h4, hcast, List.take_of_length_le]; done)); intro K9 h9)); simp (disch := (first | (simp; done) | omega | (simp; omega))) [h0, h1, h2, h3, h4, hcast, List.take_of_length_le]; (try simp (disch := (first | omega | (simp; omega))) only [wrap_i64, wrap_u8, wrap_u32, wrap_u64, Int.tmod_eq_emod_of_nonneg, Int.tdiv_eq_ediv_of_nonneg]); (first | refine acall_pure (hd1) (by simp) ?_ | refine acall_pure (hd2) (by simp) ?_ | refine acall_pure (hsp) (by simp) ?_ | skip); (repeat (refine And.intro (by first | omega | (simp; first | done | omega) | assumption | (intro e9; have e8 := congrArg List.length e9; first | (simp at e8; done) | ((try simp only [List.length_map, List.length_append] at e8); rw [List.length_nil] at e8; omega))) ?_)); (first | refine h9 _ _ (arunU_slots (by first | (dsimp only [sput, sset]; done) | rfl) ?_)); clear h9 K9)
    | (refine arunU_end ?_)
    | (refine awp_seq fun K hK => ?_)
    | (refine awp_regionU ?_)
    | (refine hK _ _ ?_; clear hK K)
    | (refine awp_ret ?_; refine ret_go ?_)
    | (refine arunU_no ?_ ?_; (focus (simp [h0, h1, h2, h3, h4, hcast, List.take_of_length_le]; done)); refine arunU_slots (by first | (dsimp only [sput, sset]; done) | rfl) ?_)
    | (refine fall_go ?_)
    | (simp only [athen_normal, athen_exit, athen_ret, ablock_self, ablock_ne, ablock_normal, ablock_ret, Nat.reduceBEq])
    | (clear hK K; refine hK _ _ ?_; clear hK K)
    | (clear hK K; clear hK K; refine hK _ _ ?_; clear hK K)
    | (clear hK K; clear hK K; clear hK K; refine hK _ _ ?_; clear hK K)
    | (clear hK K; clear hK K; clear hK K; clear hK K; refine hK _ _ ?_; clear hK K)
    | (clear hK K; clear hK K; clear hK K; clear hK K; clear hK K; refine hK _ _ ?_; clear hK K))
            exact .pure .bool
      · have h2' : decide (2 < s.length) = false := by simp; omega
        rw [h2']
        repeat' (first
    | ((first | refine arunU_go0 rfl fun K9 h9 => ?_ | (refine arunU_go ?_ ?_; (focus (simp [h0, h1, h2]; done)); intro K9 h9)); simp (disch := (first | (simp; done) | omega | (simp; omega))) [h0, h1, h2]; (try simp (disch := (first | omega | (simp; omega))) only [wrap_i64, wrap_u8, wrap_u32, wrap_u64, Int.tmod_eq_emod_of_nonneg, Int.tdiv_eq_ediv_of_nonneg]); (first | refine acall_pure (hd1) (by simp) ?_ | skip); (repeat (refine And.intro (by first | omega | (simp; first | done | omega) | assumption | (intro e9; have e8 := congrArg List.length e9; first | (simp at e8; done) | ((try simp only [List.length_map, List.length_append] at e8); rw [List.length_nil] at e8; omega))) ?_)); (first | refine h9 _ _ (arunU_slots (by first | (dsimp only [sput, sset]; done) | rfl) ?_)); clear h9 K9)
    | (refine arunU_end ?_)
    | (refine awp_seq fun K hK => ?_)
    | (refine awp_regionU ?_)
    | (refine hK _ _ ?_; clear hK K)
    | (refine awp_ret ?_; refine ret_go ?_)
    | (refine arunU_no ?_ ?_; (focus (simp [h0, h1, h2]; done)); refine arunU_slots (by first | (dsimp only [sput, sset]; done) | rfl) ?_)
    | (refine fall_go ?_)
    | (simp only [athen_normal, athen_exit, athen_ret, ablock_self, ablock_ne, ablock_normal, ablock_ret, Nat.reduceBEq])
    | (clear hK K; refine hK _ _ ?_; clear hK K)
    | (clear hK K; clear hK K; refine hK _ _ ?_; clear hK K)
    | (clear hK K; clear hK K; clear hK K; refine hK _ _ ?_; clear hK K)
    | (clear hK K; clear hK K; clear hK K; clear hK K; refine hK _ _ ?_; clear hK K)
    | (clear hK K; clear hK K; clear hK K; clear hK K; clear hK K; refine hK _ _ ?_; clear hK K))
        exact .pure .bool
    · have h1' : decide (s.length ≤ 128) = false := by simp; omega
      rw [h1']
      repeat' (first
    | ((first | refine arunU_go0 rfl fun K9 h9 => ?_ | (refine arunU_go ?_ ?_; (focus (simp [h0, h1]; done)); intro K9 h9)); simp (disch := (first | (simp; done) | omega | (simp; omega))) [h0, h1]; (try simp (disch := (first | omega | (simp; omega))) only [wrap_i64, wrap_u8, wrap_u32, wrap_u64, Int.tmod_eq_emod_of_nonneg, Int.tdiv_eq_ediv_of_nonneg]); (first | refine acall_pure (hd1) (by simp) ?_ | skip); (repeat (refine And.intro (by first | omega | (simp; first | done | omega) | assumption | (intro e9; have e8 := congrArg List.length e9; first | (simp at e8; done) | ((try simp only [List.length_map, List.length_append] at e8); rw [List.length_nil] at e8; omega))) ?_)); (first | refine h9 _ _ (arunU_slots (by first | (dsimp only [sput, sset]; done) | rfl) ?_)); clear h9 K9)
    | (refine arunU_end ?_)
    | (refine awp_seq fun K hK => ?_)
    | (refine awp_regionU ?_)
    | (refine hK _ _ ?_; clear hK K)
    | (refine awp_ret ?_; refine ret_go ?_)
    | (refine arunU_no ?_ ?_; (focus (simp [h0, h1]; done)); refine arunU_slots (by first | (dsimp only [sput, sset]; done) | rfl) ?_)
    | (refine fall_go ?_)
    | (simp only [athen_normal, athen_exit, athen_ret, ablock_self, ablock_ne, ablock_normal, ablock_ret, Nat.reduceBEq])
    | (clear hK K; refine hK _ _ ?_; clear hK K)
    | (clear hK K; clear hK K; refine hK _ _ ?_; clear hK K)
    | (clear hK K; clear hK K; clear hK K; refine hK _ _ ?_; clear hK K)
    | (clear hK K; clear hK K; clear hK K; clear hK K; refine hK _ _ ?_; clear hK K)
    | (clear hK K; clear hK K; clear hK K; clear hK K; clear hK K; refine hK _ _ ?_; clear hK K))
      exact .pure .bool
  · repeat' (first
    | ((first | refine arunU_go0 rfl fun K9 h9 => ?_ | (refine arunU_go ?_ ?_; (focus (simp [h0]; done)); intro K9 h9)); simp (disch := (first | (simp; done) | omega | (simp; omega))) [h0]; (try simp (disch := (first | omega | (simp; omega))) only [wrap_i64, wrap_u8, wrap_u32, wrap_u64, Int.tmod_eq_emod_of_nonneg, Int.tdiv_eq_ediv_of_nonneg]); (first | refine acall_pure (hd1) (by simp) ?_ | skip); (repeat (refine And.intro (by first | omega | (simp; first | done | omega) | assumption | (intro e9; have e8 := congrArg List.length e9; first | (simp at e8; done) | ((try simp only [List.length_map, List.length_append] at e8); rw [List.length_nil] at e8; omega))) ?_)); (first | refine h9 _ _ (arunU_slots (by first | (dsimp only [sput, sset]; done) | rfl) ?_)); clear h9 K9)
    | (refine arunU_end ?_)
    | (refine awp_seq fun K hK => ?_)
    | (refine awp_regionU ?_)
    | (refine hK _ _ ?_; clear hK K)
    | (refine awp_ret ?_; refine ret_go ?_)
    | (refine arunU_no ?_ ?_; (focus (simp [h0]; done)); refine arunU_slots (by first | (dsimp only [sput, sset]; done) | rfl) ?_)
    | (refine fall_go ?_)
    | (simp only [athen_normal, athen_exit, athen_ret, ablock_self, ablock_ne, ablock_normal, ablock_ret, Nat.reduceBEq])
    | (clear hK K; refine hK _ _ ?_; clear hK K)
    | (clear hK K; clear hK K; refine hK _ _ ?_; clear hK K)
    | (clear hK K; clear hK K; clear hK K; refine hK _ _ ?_; clear hK K)
    | (clear hK K; clear hK K; clear hK K; clear hK K; refine hK _ _ ?_; clear hK K)
    | (clear hK K; clear hK K; clear hK K; clear hK K; clear hK K; refine hK _ _ ?_; clear hK K))
    exact .pure .bool
  · exact .bool
end Go.Proofs.YtegmenlonpgnpaaDoor
