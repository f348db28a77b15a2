/-
  HOST: mail addresses by the definition.
  Conditions: none.
-/
import Derived.Test.YtegmenlonpgnpaaDoorH11
namespace Go.Proofs.YtegmenlonpgnpaaDoor
open Go.VS Go.Hst
set_option linter.all false
attribute [local irreducible] arun arunD arunU AWp aend

def partsV (s : List UInt8) : V := if mailB s = true then .tup [.str (befC 64 s), .str (aftC 64 s), .bool true] else .tup [.str [], .str [], .bool false]
theorem bef_at {s : List UInt8} {k : Nat} (hk : k < s.length) (h : s[k] = 64) (hn : ∀ j (hj : j < s.length), j < k → s[j] ≠ 64) : befC 64 s = s.take k ∧ aftC 64 s = s.drop (k + 1) ∧ 64 ∈ s := by
  have hm : (64 : UInt8) ∉ s.take k := by
    intro hm
    obtain ⟨j, hj, e⟩ := List.getElem_of_mem hm
    simp at hj
    rw [List.getElem_take] at e
    exact hn j (by omega) (by omega) e
  have hs : s = s.take k ++ 64 :: s.drop (k + 1) := by
    conv => lhs; rw [← List.take_append_drop k s, List.drop_eq_getElem_cons hk, h]
  have hin : 64 ∈ s := by rw [← h]; exact List.getElem_mem _
  have hb := bef_aft 64 s hin
  have hnb := bef_not 64 s
  have hlen : (befC 64 s).length = k := by
    rcases Nat.lt_trichotomy (befC 64 s).length k with h1 | h1 | h1
    · exfalso
      have h2 : (befC 64 s).length < s.length := by omega
      have : s[(befC 64 s).length] = 64 := by
        have : ∀ (t : List UInt8) (e : t = befC 64 s ++ 64 :: aftC 64 s) (h : (befC 64 s).length < t.length), t[(befC 64 s).length] = 64 := by
          rintro t rfl h; simp
        exact this s hb h2
      exact hn _ h2 h1 this
    · exact h1
    · exfalso
      apply hnb
      have : s[k] = (befC 64 s)[k] := by
        have : ∀ (t : List UInt8) (e : t = befC 64 s ++ 64 :: aftC 64 s) (h : k < t.length), t[k] = (befC 64 s)[k] := by
          rintro t rfl h; rw [List.getElem_append_left]
        exact this s hb hk
      have h64 : (befC 64 s)[k] = 64 := by rw [← this]; exact h
      have hmem : (befC 64 s)[k] ∈ befC 64 s := List.getElem_mem _
      rw [h64] at hmem
      exact hmem
  have h1 := take_app hb
  have h2 := drop_app hb
  rw [hlen] at h1 h2
  exact ⟨h1.symm, h2.symm, hin⟩

theorem dd_iff (w : List UInt8) : ddB w = true ↔ ∃ i, ∃ h : i + 1 < w.length, w[i] = 46 ∧ w[i + 1] = 46 := by
  unfold ddB Lib.contains
  rw [decide_eq_true_iff]
  induction w with
  | nil => simp [Lib.index]
  | cons b l ih =>
    unfold Lib.index
    have hg := Lib.index_ge l [46, 46]
    by_cases hp : ([46, 46] : List UInt8).isPrefixOf (b :: l) = true
    · rw [if_pos hp]
      rw [List.isPrefixOf_iff_prefix] at hp
      obtain ⟨t, ht⟩ := hp
      refine ⟨fun _ => ⟨0, ?_, ?_⟩, fun _ => by decide⟩
      · rw [← ht]; simp
      · have h1 := congrArg (fun l : List UInt8 => l[0]?) ht
        have h2 := congrArg (fun l : List UInt8 => l[1]?) ht
        simp at h1 h2
        cases l with
        | nil => simp at h2
        | cons c l => simp at h2 ⊢; exact ⟨h1.symm, h2.symm⟩
    · rw [if_neg hp]
      by_cases hi : Lib.index l [46, 46] = -1
      · have : ¬ ∃ i, ∃ h : i + 1 < l.length, l[i] = 46 ∧ l[i + 1] = 46 := fun h => by have := ih.2 h; omega
        simp only [hi]
        constructor
        · intro h; exact absurd h (by decide)
        · rintro ⟨i, h, h1, h2⟩
          exfalso
          cases i with
          | zero =>
            apply hp
            rw [List.isPrefixOf_iff_prefix]
            cases l with
            | nil => simp at h
            | cons c l =>
              simp at h1 h2
              subst h1; subst h2
              exact ⟨l, rfl⟩
          | succ i => exact this ⟨i, by simpa using h, by simpa using h1, by simpa using h2⟩
      · have hpos : 0 ≤ Lib.index l [46, 46] := by omega
        rw [if_neg (by simpa using hi)]
        obtain ⟨i, h, h1, h2⟩ := ih.1 hpos
        exact ⟨fun _ => ⟨i + 1, by simpa using h, by simpa using h1, by simpa using h2⟩, fun _ => by omega⟩

set_option maxHeartbeats 8000000 in
theorem parts_call (s : List UInt8) (hs : s.length ≤ 1000000) : PCall Tryd.prog 47 [.str s] (partsV s) := by
  refine pcall_body Tryd.func47 rfl Tryd.call47 ?_ ?_
  rotate_left 1
  refine awp_slots (s' := ((.str s : V) :: V.junk :: V.junk :: V.junk :: V.junk :: V.junk :: V.junk :: V.junk :: V.junk :: V.junk :: V.junk :: V.junk :: V.junk :: V.junk :: V.junk :: V.junk :: V.junk :: V.junk :: V.junk :: V.junk :: V.junk :: V.junk :: V.junk :: V.junk :: V.junk :: V.junk :: V.junk :: V.junk :: V.junk :: V.junk :: V.junk :: V.junk :: V.junk :: V.junk :: V.junk :: V.junk :: V.junk :: V.junk :: V.junk :: V.junk :: V.junk :: V.junk :: V.junk :: V.junk :: V.junk :: V.junk :: V.junk :: V.junk :: V.junk :: V.junk :: V.junk :: V.junk :: V.junk :: V.junk :: V.junk :: V.junk :: V.junk :: V.junk :: V.junk :: V.junk :: V.junk :: V.junk :: V.junk :: V.junk :: V.junk :: V.junk :: V.junk :: V.junk :: V.junk :: V.junk :: V.junk :: V.junk :: V.junk :: V.junk :: V.junk :: V.junk :: V.junk :: V.junk :: V.junk :: V.junk :: V.junk :: V.junk :: V.junk :: V.junk :: V.junk :: V.junk :: V.junk :: V.junk :: V.junk :: V.junk :: V.junk :: [])) rfl ?_
  by_cases h1 : (128 : Int) < s.length
  · repeat' (first
    | ((first | refine arunU_go0 rfl fun K9 h9 => ?_ | refine arunD_goF rfl rfl fun K9 h9 => ?_ | refine arunD_goT rfl rfl fun K9 h9 => ?_ | (refine arunU_go ?_ ?_; (focus (simp [h1]; done)); intro K9 h9) | ((first | refine arunD_gF rfl ?_ ?_ | refine arunD_gT rfl ?_ ?_); (focus (simp [h1]; done)); intro K9 h9)); simp (disch := (first | (simp; done) | omega | (simp; omega))) [h1]; (try simp (disch := (first | omega | (simp; omega))) only [wrap_i64, wrap_u8, wrap_u32, wrap_u64, Int.tmod_eq_emod_of_nonneg, Int.tdiv_eq_ediv_of_nonneg]); (repeat (refine And.intro (by first | omega | (simp; first | done | omega) | assumption | (intro e9; have e8 := congrArg List.length e9; first | (simp at e8; done) | ((try simp only [List.length_map, List.length_append] at e8); rw [List.length_nil] at e8; omega))) ?_)); (first | refine h9 _ _ (arunU_slots (by first | (dsimp only [sput, sset]; done) | rfl) ?_) | refine h9 _ _ (arunD_slots' (by first | (dsimp only [sput, sset]; done) | rfl) (by first | (dsimp only [List.tail]; done) | rfl) ?_)); clear h9 K9)
    | (refine arunU_end ?_)
    | (refine arunD_end ?_)
    | (refine awp_seq fun K hK => ?_)
    | (refine awp_regionU ?_)
    | (refine hK _ _ ?_; clear hK K)
    | ((first | refine awp_region_draw' (m := 0) (by decide +kernel) [] (by kernel_rfl) (by decide +kernel) ?_); dsimp only [List.replicate, List.append_nil, List.cons_append, List.nil_append, List.length_cons, List.length_nil])
    | (refine awp_block ?_)
    | (refine awp_cond rfl (fun hcnd => ?_) (fun hcnd => ?_) <;> (try simp at hcnd) <;> (try contradiction) <;> (try (exfalso; omega)))
    | (refine awp_skip ?_)
    | (refine awp_exit ?_; simp only [athen_normal, athen_exit, athen_ret, ablock_self, ablock_ne, ablock_normal, ablock_ret, Nat.reduceBEq])
    | (refine awp_ret ?_; refine ret_go ?_)
    | (refine arunU_no ?_ ?_; (focus (simp [h1]; done)); refine arunU_slots (by first | (dsimp only [sput, sset]; done) | rfl) ?_)
    | ((first | refine arunD_nF rfl ?_ ?_ | refine arunD_nT rfl ?_ ?_); (focus (simp [h1]; done)); refine arunD_slots' (by first | (dsimp only [sput, sset]; done) | rfl) (by first | (dsimp only [List.tail]; done) | rfl) ?_)
    | (refine fall_go ?_)
    | (simp only [athen_normal, athen_exit, athen_ret, ablock_self, ablock_ne, ablock_normal, ablock_ret, Nat.reduceBEq])
    | (clear hK K; refine hK _ _ ?_; clear hK K)
    | (clear hK K; clear hK K; refine hK _ _ ?_; clear hK K)
    | (clear hK K; clear hK K; clear hK K; refine hK _ _ ?_; clear hK K)
    | (clear hK K; clear hK K; clear hK K; clear hK K; refine hK _ _ ?_; clear hK K)
    | (clear hK K; clear hK K; clear hK K; clear hK K; clear hK K; refine hK _ _ ?_; clear hK K))
    have : mailB s = false := by
      have : decide (s.length ≤ 128) = false := by simp; omega
      simp [mailB, this]
    rw [partsV, this]
    exact .pure (by simp)
  repeat' (first
    | ((first | refine arunU_go0 rfl fun K9 h9 => ?_ | refine arunD_goF rfl rfl fun K9 h9 => ?_ | refine arunD_goT rfl rfl fun K9 h9 => ?_ | (refine arunU_go ?_ ?_; (focus (simp [h1]; done)); intro K9 h9) | ((first | refine arunD_gF rfl ?_ ?_ | refine arunD_gT rfl ?_ ?_); (focus (simp [h1]; done)); intro K9 h9)); simp (disch := (first | (simp; done) | omega | (simp; omega))) [h1]; (try simp (disch := (first | omega | (simp; omega))) only [wrap_i64, wrap_u8, wrap_u32, wrap_u64, Int.tmod_eq_emod_of_nonneg, Int.tdiv_eq_ediv_of_nonneg]); (repeat (refine And.intro (by first | omega | (simp; first | done | omega) | assumption | (intro e9; have e8 := congrArg List.length e9; first | (simp at e8; done) | ((try simp only [List.length_map, List.length_append] at e8); rw [List.length_nil] at e8; omega))) ?_)); (first | refine h9 _ _ (arunU_slots (by first | (dsimp only [sput, sset]; done) | rfl) ?_) | refine h9 _ _ (arunD_slots' (by first | (dsimp only [sput, sset]; done) | rfl) (by first | (dsimp only [List.tail]; done) | rfl) ?_)); clear h9 K9)
    | (refine arunU_end ?_)
    | (refine arunD_end ?_)
    | (refine awp_seq fun K hK => ?_)
    | (refine awp_regionU ?_)
    | (refine hK _ _ ?_; clear hK K)
    | ((first | refine awp_region_draw' (m := 0) (by decide +kernel) [] (by kernel_rfl) (by decide +kernel) ?_); dsimp only [List.replicate, List.append_nil, List.cons_append, List.nil_append, List.length_cons, List.length_nil])
    | (refine awp_block ?_)
    | (refine awp_cond rfl (fun hcnd => ?_) (fun hcnd => ?_) <;> (try simp at hcnd) <;> (try contradiction) <;> (try (exfalso; omega)))
    | (refine awp_skip ?_)
    | (refine awp_exit ?_; simp only [athen_normal, athen_exit, athen_ret, ablock_self, ablock_ne, ablock_normal, ablock_ret, Nat.reduceBEq])
    | (refine awp_ret ?_; refine ret_go ?_)
    | (refine arunU_no ?_ ?_; (focus (simp [h1]; done)); refine arunU_slots (by first | (dsimp only [sput, sset]; done) | rfl) ?_)
    | ((first | refine arunD_nF rfl ?_ ?_ | refine arunD_nT rfl ?_ ?_); (focus (simp [h1]; done)); refine arunD_slots' (by first | (dsimp only [sput, sset]; done) | rfl) (by first | (dsimp only [List.tail]; done) | rfl) ?_)
    | (refine fall_go ?_)
    | (simp only [athen_normal, athen_exit, athen_ret, ablock_self, ablock_ne, ablock_normal, ablock_ret, Nat.reduceBEq])
    | (clear hK K; refine hK _ _ ?_; clear hK K)
    | (clear hK K; clear hK K; refine hK _ _ ?_; clear hK K)
    | (clear hK K; clear hK K; clear hK K; refine hK _ _ ?_; clear hK K)
    | (clear hK K; clear hK K; clear hK K; clear hK K; refine hK _ _ ?_; clear hK K)
    | (clear hK K; clear hK K; clear hK K; clear hK K; clear hK K; refine hK _ _ ?_; clear hK K))
  · refine awp_loopU (α := Nat) (fun i => (none :: none :: some V.junk :: some V.junk :: some V.junk :: some (V.int .i64 i) :: some V.junk :: some V.junk :: some V.junk :: some V.junk :: some V.junk :: some V.junk :: some V.junk :: some V.junk :: some V.junk :: some V.junk :: some V.junk :: some V.junk :: some V.junk :: some V.junk :: some V.junk :: some V.junk :: some V.junk :: some V.junk :: some V.junk :: some V.junk :: some V.junk :: some V.junk :: some V.junk :: some V.junk :: some V.junk :: some V.junk :: some V.junk :: some V.junk :: some V.junk :: some V.junk :: some V.junk :: some V.junk :: some V.junk :: some V.junk :: some V.junk :: some V.junk :: some V.junk :: some V.junk :: some V.junk :: some V.junk :: some V.junk :: some V.junk :: some V.junk :: some V.junk :: some V.junk :: some V.junk :: some V.junk :: some V.junk :: some V.junk :: some V.junk :: some V.junk :: some V.junk :: some V.junk :: some V.junk :: some V.junk :: some V.junk :: some V.junk :: some V.junk :: some V.junk :: some V.junk :: some V.junk :: some V.junk :: some V.junk :: some V.junk :: some V.junk :: some V.junk :: some V.junk :: some V.junk :: some V.junk :: some V.junk :: some V.junk :: some V.junk :: some V.junk :: some V.junk :: some V.junk :: some V.junk :: some V.junk :: some V.junk :: some V.junk :: some V.junk :: some V.junk :: some V.junk :: some V.junk :: some V.junk :: some V.junk :: [])) (fun i => []) (fun i => i ≤ s.length ∧ ∀ j (h : j < s.length), j < i → s[j] ≠ 64) (fun i => s.length - i) 0 ⟨by omega, fun j _ h => by omega⟩ ?_ ?_
    · dsimp only [ups_some, ups_none, ups_nil, ups_nil']
      exact Le.mk [] (by simp) (rowsRen_of (by simp) (by simp [rowsOver])) (by simp)
    rintro k ⟨hk, hall⟩ KL hL
    dsimp only [ups_some, ups_none, ups_nil, ups_nil']
    have no : mailB s = false → partsV s = .tup [.str [], .str [], .bool false] := fun h => by rw [partsV, h]; rfl
    rcases Nat.lt_or_ge k s.length with hk | hk
    rotate_left 1
    · obtain rfl : k = s.length := by omega
      have hno : mailB s = false := by
        have : ¬ 64 ∈ s := fun hm => by
          obtain ⟨j, hj, e⟩ := List.getElem_of_mem hm
          exact hall j hj hj e
        simp [mailB, this]
      have hno := no hno
      by_cases h2 : (s.length : Int) < 1
      · repeat' (first
    | ((first | refine arunU_go0 rfl fun K9 h9 => ?_ | refine arunD_goF rfl rfl fun K9 h9 => ?_ | refine arunD_goT rfl rfl fun K9 h9 => ?_ | (refine arunU_go ?_ ?_; (focus (simp [h2]; done)); intro K9 h9) | ((first | refine arunD_gF rfl ?_ ?_ | refine arunD_gT rfl ?_ ?_); (focus (simp [h2]; done)); intro K9 h9)); simp (disch := (first | (simp; done) | omega | (simp; omega))) [h2]; (try simp (disch := (first | omega | (simp; omega))) only [wrap_i64, wrap_u8, wrap_u32, wrap_u64, Int.tmod_eq_emod_of_nonneg, Int.tdiv_eq_ediv_of_nonneg]); (repeat (refine And.intro (by first | omega | (simp; first | done | omega) | assumption | (intro e9; have e8 := congrArg List.length e9; first | (simp at e8; done) | ((try simp only [List.length_map, List.length_append] at e8); rw [List.length_nil] at e8; omega))) ?_)); (first | refine h9 _ _ (arunU_slots (by first | (dsimp only [sput, sset]; done) | rfl) ?_) | refine h9 _ _ (arunD_slots' (by first | (dsimp only [sput, sset]; done) | rfl) (by first | (dsimp only [List.tail]; done) | rfl) ?_)); clear h9 K9)
    | (refine arunU_end ?_)
    | (refine arunD_end ?_)
    | (refine awp_seq fun K hK => ?_)
    | (refine awp_regionU ?_)
    | (refine hK _ _ ?_; clear hK K)
    | ((first | refine awp_region_draw' (m := 0) (by decide +kernel) [] (by kernel_rfl) (by decide +kernel) ?_); dsimp only [List.replicate, List.append_nil, List.cons_append, List.nil_append, List.length_cons, List.length_nil])
    | (refine awp_block ?_)
    | (refine awp_cond rfl (fun hcnd => ?_) (fun hcnd => ?_) <;> (try simp at hcnd) <;> (try contradiction) <;> (try (exfalso; omega)))
    | (refine awp_skip ?_)
    | (refine awp_exit ?_; simp only [athen_normal, athen_exit, athen_ret, ablock_self, ablock_ne, ablock_normal, ablock_ret, Nat.reduceBEq])
    | (refine awp_ret ?_; refine ret_go ?_)
    | (refine arunU_no ?_ ?_; (focus (simp [h2]; done)); refine arunU_slots (by first | (dsimp only [sput, sset]; done) | rfl) ?_)
    | ((first | refine arunD_nF rfl ?_ ?_ | refine arunD_nT rfl ?_ ?_); (focus (simp [h2]; done)); refine arunD_slots' (by first | (dsimp only [sput, sset]; done) | rfl) (by first | (dsimp only [List.tail]; done) | rfl) ?_)
    | (refine fall_go ?_)
    | (simp only [athen_normal, athen_exit, athen_ret, ablock_self, ablock_ne, ablock_normal, ablock_ret, Nat.reduceBEq])
    | (clear hK K; refine hK _ _ ?_; clear hK K)
    | (clear hK K; clear hK K; refine hK _ _ ?_; clear hK K)
    | (clear hK K; clear hK K; clear hK K; refine hK _ _ ?_; clear hK K)
    | (clear hK K; clear hK K; clear hK K; clear hK K; refine hK _ _ ?_; clear hK K)
    | (clear hK K; clear hK K; clear hK K; clear hK K; clear hK K; refine hK _ _ ?_; clear hK K))
        rw [hno]
        simp
        exact .pure (by simp)
      by_cases h3 : (64 : Int) < s.length
      · repeat' (first
    | ((first | refine arunU_go0 rfl fun K9 h9 => ?_ | refine arunD_goF rfl rfl fun K9 h9 => ?_ | refine arunD_goT rfl rfl fun K9 h9 => ?_ | (refine arunU_go ?_ ?_; (focus (simp [h2, h3]; done)); intro K9 h9) | ((first | refine arunD_gF rfl ?_ ?_ | refine arunD_gT rfl ?_ ?_); (focus (simp [h2, h3]; done)); intro K9 h9)); simp (disch := (first | (simp; done) | omega | (simp; omega))) [h2, h3]; (try simp (disch := (first | omega | (simp; omega))) only [wrap_i64, wrap_u8, wrap_u32, wrap_u64, Int.tmod_eq_emod_of_nonneg, Int.tdiv_eq_ediv_of_nonneg]); (repeat (refine And.intro (by first | omega | (simp; first | done | omega) | assumption | (intro e9; have e8 := congrArg List.length e9; first | (simp at e8; done) | ((try simp only [List.length_map, List.length_append] at e8); rw [List.length_nil] at e8; omega))) ?_)); (first | refine h9 _ _ (arunU_slots (by first | (dsimp only [sput, sset]; done) | rfl) ?_) | refine h9 _ _ (arunD_slots' (by first | (dsimp only [sput, sset]; done) | rfl) (by first | (dsimp only [List.tail]; done) | rfl) ?_)); clear h9 K9)
    | (refine arunU_end ?_)
    | (refine arunD_end ?_)
    | (refine awp_seq fun K hK => ?_)
    | (refine awp_regionU ?_)
    | (refine hK _ _ ?_; clear hK K)
    | ((first | refine awp_region_draw' (m := 0) (by decide +kernel) [] (by kernel_rfl) (by decide +kernel) ?_); dsimp only [List.replicate, List.append_nil, List.cons_append, List.nil_append, List.length_cons, List.length_nil])
    | (refine awp_block ?_)
    | (refine awp_cond rfl (fun hcnd => ?_) (fun hcnd => ?_) <;> (try simp at hcnd) <;> (try contradiction) <;> (try (exfalso; omega)))
    | (refine awp_skip ?_)
    | (refine awp_exit ?_; simp only [athen_normal, athen_exit, athen_ret, ablock_self, ablock_ne, ablock_normal, ablock_ret, Nat.reduceBEq])
    | (refine awp_ret ?_; refine ret_go ?_)
    | (refine arunU_no ?_ ?_; (focus (simp [h2, h3]; done)); refine arunU_slots (by first | (dsimp only [sput, sset]; done) | rfl) ?_)
    | ((first | refine arunD_nF rfl ?_ ?_ | refine arunD_nT rfl ?_ ?_); (focus (simp [h2, h3]; done)); refine arunD_slots' (by first | (dsimp only [sput, sset]; done) | rfl) (by first | (dsimp only [List.tail]; done) | rfl) ?_)
    | (refine fall_go ?_)
    | (simp only [athen_normal, athen_exit, athen_ret, ablock_self, ablock_ne, ablock_normal, ablock_ret, Nat.reduceBEq])
    | (clear hK K; refine hK _ _ ?_; clear hK K)
    | (clear hK K; clear hK K; refine hK _ _ ?_; clear hK K)
    | (clear hK K; clear hK K; clear hK K; refine hK _ _ ?_; clear hK K)
    | (clear hK K; clear hK K; clear hK K; clear hK K; refine hK _ _ ?_; clear hK K)
    | (clear hK K; clear hK K; clear hK K; clear hK K; clear hK K; refine hK _ _ ?_; clear hK K))
        rw [hno]
        simp
        exact .pure (by simp)
      · repeat' (first
    | ((first | refine arunU_go0 rfl fun K9 h9 => ?_ | refine arunD_goF rfl rfl fun K9 h9 => ?_ | refine arunD_goT rfl rfl fun K9 h9 => ?_ | (refine arunU_go ?_ ?_; (focus (simp [h2, h3]; done)); intro K9 h9) | ((first | refine arunD_gF rfl ?_ ?_ | refine arunD_gT rfl ?_ ?_); (focus (simp [h2, h3]; done)); intro K9 h9)); simp (disch := (first | (simp; done) | omega | (simp; omega))) [h2, h3]; (try simp (disch := (first | omega | (simp; omega))) only [wrap_i64, wrap_u8, wrap_u32, wrap_u64, Int.tmod_eq_emod_of_nonneg, Int.tdiv_eq_ediv_of_nonneg]); (repeat (refine And.intro (by first | omega | (simp; first | done | omega) | assumption | (intro e9; have e8 := congrArg List.length e9; first | (simp at e8; done) | ((try simp only [List.length_map, List.length_append] at e8); rw [List.length_nil] at e8; omega))) ?_)); (first | refine h9 _ _ (arunU_slots (by first | (dsimp only [sput, sset]; done) | rfl) ?_) | refine h9 _ _ (arunD_slots' (by first | (dsimp only [sput, sset]; done) | rfl) (by first | (dsimp only [List.tail]; done) | rfl) ?_)); clear h9 K9)
    | (refine arunU_end ?_)
    | (refine arunD_end ?_)
    | (refine awp_seq fun K hK => ?_)
    | (refine awp_regionU ?_)
    | (refine hK _ _ ?_; clear hK K)
    | ((first | refine awp_region_draw' (m := 0) (by decide +kernel) [] (by kernel_rfl) (by decide +kernel) ?_); dsimp only [List.replicate, List.append_nil, List.cons_append, List.nil_append, List.length_cons, List.length_nil])
    | (refine awp_block ?_)
    | (refine awp_cond rfl (fun hcnd => ?_) (fun hcnd => ?_) <;> (try simp at hcnd) <;> (try contradiction) <;> (try (exfalso; omega)))
    | (refine awp_skip ?_)
    | (refine awp_exit ?_; simp only [athen_normal, athen_exit, athen_ret, ablock_self, ablock_ne, ablock_normal, ablock_ret, Nat.reduceBEq])
    | (refine awp_ret ?_; refine ret_go ?_)
    | (refine arunU_no ?_ ?_; (focus (simp [h2, h3]; done)); refine arunU_slots (by first | (dsimp only [sput, sset]; done) | rfl) ?_)
    | ((first | refine arunD_nF rfl ?_ ?_ | refine arunD_nT rfl ?_ ?_); (focus (simp [h2, h3]; done)); refine arunD_slots' (by first | (dsimp only [sput, sset]; done) | rfl) (by first | (dsimp only [List.tail]; done) | rfl) ?_)
    | (refine fall_go ?_)
    | (simp only [athen_normal, athen_exit, athen_ret, ablock_self, ablock_ne, ablock_normal, ablock_ret, Nat.reduceBEq])
    | (clear hK K; refine hK _ _ ?_; clear hK K)
    | (clear hK K; clear hK K; refine hK _ _ ?_; clear hK K)
    | (clear hK K; clear hK K; clear hK K; refine hK _ _ ?_; clear hK K)
    | (clear hK K; clear hK K; clear hK K; clear hK K; refine hK _ _ ?_; clear hK K)
    | (clear hK K; clear hK K; clear hK K; clear hK K; clear hK K; refine hK _ _ ?_; clear hK K))
        rw [hno]
        simp
        exact .pure (by simp)
    by_cases hx : s[k] = 64
    rotate_left 1
    · have hx' : ¬ ((s[k].toNat : Int) = 64) := fun e => hx ((u8i _ 64 64 rfl).1 e)
      repeat' (first
    | ((first | refine arunU_go0 rfl fun K9 h9 => ?_ | refine arunD_goF rfl rfl fun K9 h9 => ?_ | refine arunD_goT rfl rfl fun K9 h9 => ?_ | (refine arunU_go ?_ ?_; (focus (simp [hk, hx']; done)); intro K9 h9) | ((first | refine arunD_gF rfl ?_ ?_ | refine arunD_gT rfl ?_ ?_); (focus (simp [hk, hx']; done)); intro K9 h9)); simp (disch := (first | (simp; done) | omega | (simp; omega))) [hk, hx']; (try simp (disch := (first | omega | (simp; omega))) only [wrap_i64, wrap_u8, wrap_u32, wrap_u64, Int.tmod_eq_emod_of_nonneg, Int.tdiv_eq_ediv_of_nonneg]); (repeat (refine And.intro (by first | omega | (simp; first | done | omega) | assumption | (intro e9; have e8 := congrArg List.length e9; first | (simp at e8; done) | ((try simp only [List.length_map, List.length_append] at e8); rw [List.length_nil] at e8; omega))) ?_)); (first | refine h9 _ _ (arunU_slots (by first | (dsimp only [sput, sset]; done) | rfl) ?_) | refine h9 _ _ (arunD_slots' (by first | (dsimp only [sput, sset]; done) | rfl) (by first | (dsimp only [List.tail]; done) | rfl) ?_)); clear h9 K9)
    | (refine arunU_end ?_)
    | (refine arunD_end ?_)
    | (refine awp_seq fun K hK => ?_)
    | (refine awp_regionU ?_)
    | (refine hK _ _ ?_; clear hK K)
    | ((first | refine awp_region_draw' (m := 0) (by decide +kernel) [] (by kernel_rfl) (by decide +kernel) ?_); dsimp only [List.replicate, List.append_nil, List.cons_append, List.nil_append, List.length_cons, List.length_nil])
    | (refine awp_block ?_)
    | (refine awp_cond rfl (fun hcnd => ?_) (fun hcnd => ?_) <;> (try simp at hcnd) <;> (try contradiction) <;> (try (exfalso; omega)))
    | (refine awp_skip ?_)
    | (refine awp_exit ?_; simp only [athen_normal, athen_exit, athen_ret, ablock_self, ablock_ne, ablock_normal, ablock_ret, Nat.reduceBEq])
    | (refine awp_ret ?_; refine ret_go ?_)
    | (refine arunU_no ?_ ?_; (focus (simp [hk, hx']; done)); refine arunU_slots (by first | (dsimp only [sput, sset]; done) | rfl) ?_)
    | ((first | refine arunD_nF rfl ?_ ?_ | refine arunD_nT rfl ?_ ?_); (focus (simp [hk, hx']; done)); refine arunD_slots' (by first | (dsimp only [sput, sset]; done) | rfl) (by first | (dsimp only [List.tail]; done) | rfl) ?_)
    | (refine fall_go ?_)
    | (simp only [athen_normal, athen_exit, athen_ret, ablock_self, ablock_ne, ablock_normal, ablock_ret, Nat.reduceBEq])
    | (clear hK K; refine hK _ _ ?_; clear hK K)
    | (clear hK K; clear hK K; refine hK _ _ ?_; clear hK K)
    | (clear hK K; clear hK K; clear hK K; refine hK _ _ ?_; clear hK K)
    | (clear hK K; clear hK K; clear hK K; clear hK K; refine hK _ _ ?_; clear hK K)
    | (clear hK K; clear hK K; clear hK K; clear hK K; clear hK K; refine hK _ _ ?_; clear hK K))
      refine hL (k + 1) _ _ ⟨by omega, fun j hj h => ?_⟩ (by omega) ?_
      · rcases Nat.lt_or_ge j k with h3 | h3
        · exact hall j hj h3
        · obtain rfl : j = k := by omega
          exact hx
      · exact Le.mk [] (by dsimp only [ups_some, ups_none, ups_nil, ups_nil']; simp) (rowsRen_of (by simp) (by simp [rowsOver])) (by simp)
    have hx' : ((s[k].toNat : Int) = 64) := by rw [hx]; rfl
    obtain ⟨hbef, haft, hin⟩ := bef_at hk hx hall
    have hmail : mailB s = (locB (s.take k) && dnsB (s.drop (k + 1))) := by
      have q1 : decide (s.length ≤ 128) = true := by simp; omega
      have q2 : decide (64 ∈ s) = true := by simpa using hin
      rw [mailB, q1, q2, hbef, haft]; rfl
    have hwl : (s.take k).length = k := by simp; omega
    by_cases h2 : k = 0
    · subst h2
      have hno := no (by rw [hmail]; rfl)
      repeat' (first
    | ((first | refine arunU_go0 rfl fun K9 h9 => ?_ | refine arunD_goF rfl rfl fun K9 h9 => ?_ | refine arunD_goT rfl rfl fun K9 h9 => ?_ | (refine arunU_go ?_ ?_; (focus (simp [hk, hx']; done)); intro K9 h9) | ((first | refine arunD_gF rfl ?_ ?_ | refine arunD_gT rfl ?_ ?_); (focus (simp [hk, hx']; done)); intro K9 h9)); simp (disch := (first | (simp; done) | omega | (simp; omega))) [hk, hx']; (try simp (disch := (first | omega | (simp; omega))) only [wrap_i64, wrap_u8, wrap_u32, wrap_u64, Int.tmod_eq_emod_of_nonneg, Int.tdiv_eq_ediv_of_nonneg]); (repeat (refine And.intro (by first | omega | (simp; first | done | omega) | assumption | (intro e9; have e8 := congrArg List.length e9; first | (simp at e8; done) | ((try simp only [List.length_map, List.length_append] at e8); rw [List.length_nil] at e8; omega))) ?_)); (first | refine h9 _ _ (arunU_slots (by first | (dsimp only [sput, sset]; done) | rfl) ?_) | refine h9 _ _ (arunD_slots' (by first | (dsimp only [sput, sset]; done) | rfl) (by first | (dsimp only [List.tail]; done) | rfl) ?_)); clear h9 K9)
    | (refine arunU_end ?_)
    | (refine arunD_end ?_)
    | (refine awp_seq fun K hK => ?_)
    | (refine awp_regionU ?_)
    | (refine hK _ _ ?_; clear hK K)
    | ((first | refine awp_region_draw' (m := 0) (by decide +kernel) [] (by kernel_rfl) (by decide +kernel) ?_); dsimp only [List.replicate, List.append_nil, List.cons_append, List.nil_append, List.length_cons, List.length_nil])
    | (refine awp_block ?_)
    | (refine awp_cond rfl (fun hcnd => ?_) (fun hcnd => ?_) <;> (try simp at hcnd) <;> (try contradiction) <;> (try (exfalso; omega)))
    | (refine awp_skip ?_)
    | (refine awp_exit ?_; simp only [athen_normal, athen_exit, athen_ret, ablock_self, ablock_ne, ablock_normal, ablock_ret, Nat.reduceBEq])
    | (refine awp_ret ?_; refine ret_go ?_)
    | (refine arunU_no ?_ ?_; (focus (simp [hk, hx']; done)); refine arunU_slots (by first | (dsimp only [sput, sset]; done) | rfl) ?_)
    | ((first | refine arunD_nF rfl ?_ ?_ | refine arunD_nT rfl ?_ ?_); (focus (simp [hk, hx']; done)); refine arunD_slots' (by first | (dsimp only [sput, sset]; done) | rfl) (by first | (dsimp only [List.tail]; done) | rfl) ?_)
    | (refine fall_go ?_)
    | (simp only [athen_normal, athen_exit, athen_ret, ablock_self, ablock_ne, ablock_normal, ablock_ret, Nat.reduceBEq])
    | (clear hK K; refine hK _ _ ?_; clear hK K)
    | (clear hK K; clear hK K; refine hK _ _ ?_; clear hK K)
    | (clear hK K; clear hK K; clear hK K; refine hK _ _ ?_; clear hK K)
    | (clear hK K; clear hK K; clear hK K; clear hK K; refine hK _ _ ?_; clear hK K)
    | (clear hK K; clear hK K; clear hK K; clear hK K; clear hK K; refine hK _ _ ?_; clear hK K))
      rw [hno]
      simp
      exact .pure (by simp)
    have h2' : ¬ (k : Int) < 1 := by omega
    by_cases h3 : (64 : Int) < k
    · have hno := no (by
        have : decide ((s.take k).length ≤ 64) = false := by rw [hwl]; simp; omega
        rw [hmail, locB, this]; simp)
      repeat' (first
    | ((first | refine arunU_go0 rfl fun K9 h9 => ?_ | refine arunD_goF rfl rfl fun K9 h9 => ?_ | refine arunD_goT rfl rfl fun K9 h9 => ?_ | (refine arunU_go ?_ ?_; (focus (simp [hk, hx', h2', h3]; done)); intro K9 h9) | ((first | refine arunD_gF rfl ?_ ?_ | refine arunD_gT rfl ?_ ?_); (focus (simp [hk, hx', h2', h3]; done)); intro K9 h9)); simp (disch := (first | (simp; done) | omega | (simp; omega))) [hk, hx', h2', h3]; (try simp (disch := (first | omega | (simp; omega))) only [wrap_i64, wrap_u8, wrap_u32, wrap_u64, Int.tmod_eq_emod_of_nonneg, Int.tdiv_eq_ediv_of_nonneg]); (repeat (refine And.intro (by first | omega | (simp; first | done | omega) | assumption | (intro e9; have e8 := congrArg List.length e9; first | (simp at e8; done) | ((try simp only [List.length_map, List.length_append] at e8); rw [List.length_nil] at e8; omega))) ?_)); (first | refine h9 _ _ (arunU_slots (by first | (dsimp only [sput, sset]; done) | rfl) ?_) | refine h9 _ _ (arunD_slots' (by first | (dsimp only [sput, sset]; done) | rfl) (by first | (dsimp only [List.tail]; done) | rfl) ?_)); clear h9 K9)
    | (refine arunU_end ?_)
    | (refine arunD_end ?_)
    | (refine awp_seq fun K hK => ?_)
    | (refine awp_regionU ?_)
    | (refine hK _ _ ?_; clear hK K)
    | ((first | refine awp_region_draw' (m := 0) (by decide +kernel) [] (by kernel_rfl) (by decide +kernel) ?_); dsimp only [List.replicate, List.append_nil, List.cons_append, List.nil_append, List.length_cons, List.length_nil])
    | (refine awp_block ?_)
    | (refine awp_cond rfl (fun hcnd => ?_) (fun hcnd => ?_) <;> (try simp at hcnd) <;> (try contradiction) <;> (try (exfalso; omega)))
    | (refine awp_skip ?_)
    | (refine awp_exit ?_; simp only [athen_normal, athen_exit, athen_ret, ablock_self, ablock_ne, ablock_normal, ablock_ret, Nat.reduceBEq])
    | (refine awp_ret ?_; refine ret_go ?_)
    | (refine arunU_no ?_ ?_; (focus (simp [hk, hx', h2', h3]; done)); refine arunU_slots (by first | (dsimp only [sput, sset]; done) | rfl) ?_)
    | ((first | refine arunD_nF rfl ?_ ?_ | refine arunD_nT rfl ?_ ?_); (focus (simp [hk, hx', h2', h3]; done)); refine arunD_slots' (by first | (dsimp only [sput, sset]; done) | rfl) (by first | (dsimp only [List.tail]; done) | rfl) ?_)
    | (refine fall_go ?_)
    | (simp only [athen_normal, athen_exit, athen_ret, ablock_self, ablock_ne, ablock_normal, ablock_ret, Nat.reduceBEq])
    | (clear hK K; refine hK _ _ ?_; clear hK K)
    | (clear hK K; clear hK K; refine hK _ _ ?_; clear hK K)
    | (clear hK K; clear hK K; clear hK K; refine hK _ _ ?_; clear hK K)
    | (clear hK K; clear hK K; clear hK K; clear hK K; refine hK _ _ ?_; clear hK K)
    | (clear hK K; clear hK K; clear hK K; clear hK K; clear hK K; refine hK _ _ ?_; clear hK K))
      rw [hno]
      simp
      exact .pure (by simp)
    have h4 : ¬ (k : Int) = s.length := by omega
    have ek : ((k : Int) + 1).toNat = k + 1 := by omega
    have ek1 : ((k : Int) - 1).toNat = k - 1 := by omega
    have hd := rdns_call (s.drop (k + 1)) (by simp; omega)
    cases h5 : dnsB (s.drop (k + 1)) <;> rw [h5] at hd
    · have hno := no (by rw [hmail, h5]; simp)
      repeat' (first
    | ((first | refine arunU_go0 rfl fun K9 h9 => ?_ | refine arunD_goF rfl rfl fun K9 h9 => ?_ | refine arunD_goT rfl rfl fun K9 h9 => ?_ | (refine arunU_go ?_ ?_; (focus (simp [hk, hx', h2', h3, h4, ek, List.take_of_length_le]; done)); intro K9 h9) | ((first | refine arunD_gF rfl ?_ ?_ | refine arunD_gT rfl ?_ ?_); (focus (simp [hk, hx', h2', h3, h4, ek, List.take_of_length_le]; done)); intro K9 h9)); simp (disch := (first | (simp; done) | omega | (simp; omega))) [hk, hx', h2', h3, h4, ek, List.take_of_length_le]; (try simp (disch := (first | omega | (simp; omega))) only [wrap_i64, wrap_u8, wrap_u32, wrap_u64, Int.tmod_eq_emod_of_nonneg, Int.tdiv_eq_ediv_of_nonneg]); (first | refine acall_pure (hd) (by simp) ?_ | skip); (repeat (refine And.intro (by first | omega | (simp; first | done | omega) | assumption | (intro e9; have e8 := congrArg List.length e9; first | (simp at e8; done) | ((try simp only [List.length_map, List.length_append] at e8); rw [List.length_nil] at e8; omega))) ?_)); (first | refine h9 _ _ (arunU_slots (by first | (dsimp only [sput, sset]; done) | rfl) ?_) | refine h9 _ _ (arunD_slots' (by first | (dsimp only [sput, sset]; done) | rfl) (by first | (dsimp only [List.tail]; done) | rfl) ?_)); clear h9 K9)
    | (refine arunU_end ?_)
    | (refine arunD_end ?_)
    | (refine awp_seq fun K hK => ?_)
    | (refine awp_regionU ?_)
    | (refine hK _ _ ?_; clear hK K)
    | ((first | refine awp_region_draw' (m := 0) (by decide +kernel) [] (by kernel_rfl) (by decide +kernel) ?_); dsimp only [List.replicate, List.append_nil, List.cons_append, List.nil_append, List.length_cons, List.length_nil])
    | (refine awp_block ?_)
    | (refine awp_cond rfl (fun hcnd => ?_) (fun hcnd => ?_) <;> (try simp at hcnd) <;> (try contradiction) <;> (try (exfalso; omega)))
    | (refine awp_skip ?_)
    | (refine awp_exit ?_; simp only [athen_normal, athen_exit, athen_ret, ablock_self, ablock_ne, ablock_normal, ablock_ret, Nat.reduceBEq])
    | (refine awp_ret ?_; refine ret_go ?_)
    | (refine arunU_no ?_ ?_; (focus (simp [hk, hx', h2', h3, h4, ek, List.take_of_length_le]; done)); refine arunU_slots (by first | (dsimp only [sput, sset]; done) | rfl) ?_)
    | ((first | refine arunD_nF rfl ?_ ?_ | refine arunD_nT rfl ?_ ?_); (focus (simp [hk, hx', h2', h3, h4, ek, List.take_of_length_le]; done)); refine arunD_slots' (by first | (dsimp only [sput, sset]; done) | rfl) (by first | (dsimp only [List.tail]; done) | rfl) ?_)
    | (refine fall_go ?_)
    | (simp only [athen_normal, athen_exit, athen_ret, ablock_self, ablock_ne, ablock_normal, ablock_ret, Nat.reduceBEq])
    | (clear hK K; refine hK _ _ ?_; clear hK K)
    | (clear hK K; clear hK K; refine hK _ _ ?_; clear hK K)
    | (clear hK K; clear hK K; clear hK K; refine hK _ _ ?_; clear hK K)
    | (clear hK K; clear hK K; clear hK K; clear hK K; refine hK _ _ ?_; clear hK K)
    | (clear hK K; clear hK K; clear hK K; clear hK K; clear hK K; refine hK _ _ ?_; clear hK K))
      rw [hno]
      simp
      exact .pure (by simp)
    rw [h5, Bool.and_true] at hmail
    have hpos : 0 < s.length := by omega
    have g0 : (s.take k).getD 0 0 = s[0]'hpos := by
      rw [List.getD_eq_getElem?_getD, List.getElem?_eq_getElem (by omega)]; simp
    have g1 : (s.take k).getD ((s.take k).length - 1) 0 = s[k - 1]'(by omega) := by
      rw [hwl, List.getD_eq_getElem?_getD, List.getElem?_eq_getElem (by omega)]; simp
    by_cases h6 : ((s[0]'hpos).toNat : Int) = 46
    · have hno := no (by
        have : s[0]'hpos = 46 := u46.1 h6
        rw [hmail, locB, g0, this]; simp)
      repeat' (first
    | ((first | refine arunU_go0 rfl fun K9 h9 => ?_ | refine arunD_goF rfl rfl fun K9 h9 => ?_ | refine arunD_goT rfl rfl fun K9 h9 => ?_ | (refine arunU_go ?_ ?_; (focus (simp [hk, hx', h2', h3, h4, ek, h6, List.take_of_length_le]; done)); intro K9 h9) | ((first | refine arunD_gF rfl ?_ ?_ | refine arunD_gT rfl ?_ ?_); (focus (simp [hk, hx', h2', h3, h4, ek, h6, List.take_of_length_le]; done)); intro K9 h9)); simp (disch := (first | (simp; done) | omega | (simp; omega))) [hk, hx', h2', h3, h4, ek, h6, List.take_of_length_le]; (try simp (disch := (first | omega | (simp; omega))) only [wrap_i64, wrap_u8, wrap_u32, wrap_u64, Int.tmod_eq_emod_of_nonneg, Int.tdiv_eq_ediv_of_nonneg]); (first | refine acall_pure (hd) (by simp) ?_ | skip); (repeat (refine And.intro (by first | omega | (simp; first | done | omega) | assumption | (intro e9; have e8 := congrArg List.length e9; first | (simp at e8; done) | ((try simp only [List.length_map, List.length_append] at e8); rw [List.length_nil] at e8; omega))) ?_)); (first | refine h9 _ _ (arunU_slots (by first | (dsimp only [sput, sset]; done) | rfl) ?_) | refine h9 _ _ (arunD_slots' (by first | (dsimp only [sput, sset]; done) | rfl) (by first | (dsimp only [List.tail]; done) | rfl) ?_)); clear h9 K9)
    | (refine arunU_end ?_)
    | (refine arunD_end ?_)
    | (refine awp_seq fun K hK => ?_)
    | (refine awp_regionU ?_)
    | (refine hK _ _ ?_; clear hK K)
    | ((first | refine awp_region_draw' (m := 0) (by decide +kernel) [] (by kernel_rfl) (by decide +kernel) ?_); dsimp only [List.replicate, List.append_nil, List.cons_append, List.nil_append, List.length_cons, List.length_nil])
    | (refine awp_block ?_)
    | (refine awp_cond rfl (fun hcnd => ?_) (fun hcnd => ?_) <;> (try simp at hcnd) <;> (try contradiction) <;> (try (exfalso; omega)))
    | (refine awp_skip ?_)
    | (refine awp_exit ?_; simp only [athen_normal, athen_exit, athen_ret, ablock_self, ablock_ne, ablock_normal, ablock_ret, Nat.reduceBEq])
    | (refine awp_ret ?_; refine ret_go ?_)
    | (refine arunU_no ?_ ?_; (focus (simp [hk, hx', h2', h3, h4, ek, h6, List.take_of_length_le]; done)); refine arunU_slots (by first | (dsimp only [sput, sset]; done) | rfl) ?_)
    | ((first | refine arunD_nF rfl ?_ ?_ | refine arunD_nT rfl ?_ ?_); (focus (simp [hk, hx', h2', h3, h4, ek, h6, List.take_of_length_le]; done)); refine arunD_slots' (by first | (dsimp only [sput, sset]; done) | rfl) (by first | (dsimp only [List.tail]; done) | rfl) ?_)
    | (refine fall_go ?_)
    | (simp only [athen_normal, athen_exit, athen_ret, ablock_self, ablock_ne, ablock_normal, ablock_ret, Nat.reduceBEq])
    | (clear hK K; refine hK _ _ ?_; clear hK K)
    | (clear hK K; clear hK K; refine hK _ _ ?_; clear hK K)
    | (clear hK K; clear hK K; clear hK K; refine hK _ _ ?_; clear hK K)
    | (clear hK K; clear hK K; clear hK K; clear hK K; refine hK _ _ ?_; clear hK K)
    | (clear hK K; clear hK K; clear hK K; clear hK K; clear hK K; refine hK _ _ ?_; clear hK K))
      rw [hno]
      simp
      exact .pure (by simp)
    by_cases h7 : ((s[k - 1]'(by omega)).toNat : Int) = 46
    · have hno := no (by
        have : s[k - 1]'(by omega) = 46 := u46.1 h7
        rw [hmail, locB, g0, g1, this]; simp)
      repeat' (first
    | ((first | refine arunU_go0 rfl fun K9 h9 => ?_ | refine arunD_goF rfl rfl fun K9 h9 => ?_ | refine arunD_goT rfl rfl fun K9 h9 => ?_ | (refine arunU_go ?_ ?_; (focus (simp [hk, hx', h2', h3, h4, ek, ek1, h6, h7, List.take_of_length_le]; done)); intro K9 h9) | ((first | refine arunD_gF rfl ?_ ?_ | refine arunD_gT rfl ?_ ?_); (focus (simp [hk, hx', h2', h3, h4, ek, ek1, h6, h7, List.take_of_length_le]; done)); intro K9 h9)); simp (disch := (first | (simp; done) | omega | (simp; omega))) [hk, hx', h2', h3, h4, ek, ek1, h6, h7, List.take_of_length_le]; (try simp (disch := (first | omega | (simp; omega))) only [wrap_i64, wrap_u8, wrap_u32, wrap_u64, Int.tmod_eq_emod_of_nonneg, Int.tdiv_eq_ediv_of_nonneg]); (first | refine acall_pure (hd) (by simp) ?_ | skip); (repeat (refine And.intro (by first | omega | (simp; first | done | omega) | assumption | (intro e9; have e8 := congrArg List.length e9; first | (simp at e8; done) | ((try simp only [List.length_map, List.length_append] at e8); rw [List.length_nil] at e8; omega))) ?_)); (first | refine h9 _ _ (arunU_slots (by first | (dsimp only [sput, sset]; done) | rfl) ?_) | refine h9 _ _ (arunD_slots' (by first | (dsimp only [sput, sset]; done) | rfl) (by first | (dsimp only [List.tail]; done) | rfl) ?_)); clear h9 K9)
    | (refine arunU_end ?_)
    | (refine arunD_end ?_)
    | (refine awp_seq fun K hK => ?_)
    | (refine awp_regionU ?_)
    | (refine hK _ _ ?_; clear hK K)
    | ((first | refine awp_region_draw' (m := 0) (by decide +kernel) [] (by kernel_rfl) (by decide +kernel) ?_); dsimp only [List.replicate, List.append_nil, List.cons_append, List.nil_append, List.length_cons, List.length_nil])
    | (refine awp_block ?_)
    | (refine awp_cond rfl (fun hcnd => ?_) (fun hcnd => ?_) <;> (try simp at hcnd) <;> (try contradiction) <;> (try (exfalso; omega)))
    | (refine awp_skip ?_)
    | (refine awp_exit ?_; simp only [athen_normal, athen_exit, athen_ret, ablock_self, ablock_ne, ablock_normal, ablock_ret, Nat.reduceBEq])
    | (refine awp_ret ?_; refine ret_go ?_)
    | (refine arunU_no ?_ ?_; (focus (simp [hk, hx', h2', h3, h4, ek, ek1, h6, h7, List.take_of_length_le]; done)); refine arunU_slots (by first | (dsimp only [sput, sset]; done) | rfl) ?_)
    | ((first | refine arunD_nF rfl ?_ ?_ | refine arunD_nT rfl ?_ ?_); (focus (simp [hk, hx', h2', h3, h4, ek, ek1, h6, h7, List.take_of_length_le]; done)); refine arunD_slots' (by first | (dsimp only [sput, sset]; done) | rfl) (by first | (dsimp only [List.tail]; done) | rfl) ?_)
    | (refine fall_go ?_)
    | (simp only [athen_normal, athen_exit, athen_ret, ablock_self, ablock_ne, ablock_normal, ablock_ret, Nat.reduceBEq])
    | (clear hK K; refine hK _ _ ?_; clear hK K)
    | (clear hK K; clear hK K; refine hK _ _ ?_; clear hK K)
    | (clear hK K; clear hK K; clear hK K; refine hK _ _ ?_; clear hK K)
    | (clear hK K; clear hK K; clear hK K; clear hK K; refine hK _ _ ?_; clear hK K)
    | (clear hK K; clear hK K; clear hK K; clear hK K; clear hK K; refine hK _ _ ?_; clear hK K))
      rw [hno]
      simp
      exact .pure (by simp)
    have hB : mailB s = (!ddB (s.take k) && (s.take k).all okM) := by
      have q1 : decide (1 ≤ (s.take k).length) = true := by rw [hwl]; simp; omega
      have q2 : decide ((s.take k).length ≤ 64) = true := by rw [hwl]; simp; omega
      have q3 : s[0]'(by omega) ≠ 46 := fun e => h6 (u46.2 e)
      have q4 : s[k - 1]'(by omega) ≠ 46 := fun e => h7 (u46.2 e)
      rw [hmail, locB, g0, g1, beq_false_of_ne q3, beq_false_of_ne q4, q1, q2]; rfl
    repeat' (first
    | ((first | refine arunU_go0 rfl fun K9 h9 => ?_ | refine arunD_goF rfl rfl fun K9 h9 => ?_ | refine arunD_goT rfl rfl fun K9 h9 => ?_ | (refine arunU_go ?_ ?_; (focus (simp [hk, hx', h2', h3, h4, ek, ek1, h6, h7, List.take_of_length_le]; done)); intro K9 h9) | ((first | refine arunD_gF rfl ?_ ?_ | refine arunD_gT rfl ?_ ?_); (focus (simp [hk, hx', h2', h3, h4, ek, ek1, h6, h7, List.take_of_length_le]; done)); intro K9 h9)); simp (disch := (first | (simp; done) | omega | (simp; omega))) [hk, hx', h2', h3, h4, ek, ek1, h6, h7, List.take_of_length_le]; (try simp (disch := (first | omega | (simp; omega))) only [wrap_i64, wrap_u8, wrap_u32, wrap_u64, Int.tmod_eq_emod_of_nonneg, Int.tdiv_eq_ediv_of_nonneg]); (first | refine acall_pure (hd) (by simp) ?_ | skip); (repeat (refine And.intro (by first | omega | (simp; first | done | omega) | assumption | (intro e9; have e8 := congrArg List.length e9; first | (simp at e8; done) | ((try simp only [List.length_map, List.length_append] at e8); rw [List.length_nil] at e8; omega))) ?_)); (first | refine h9 _ _ (arunU_slots (by first | (dsimp only [sput, sset]; done) | rfl) ?_) | refine h9 _ _ (arunD_slots' (by first | (dsimp only [sput, sset]; done) | rfl) (by first | (dsimp only [List.tail]; done) | rfl) ?_)); clear h9 K9)
    | (refine arunU_end ?_)
    | (refine arunD_end ?_)
    | (refine awp_seq fun K hK => ?_)
    | (refine awp_regionU ?_)
    | (refine hK _ _ ?_; clear hK K)
    | ((first | refine awp_region_draw' (m := 0) (by decide +kernel) [] (by kernel_rfl) (by decide +kernel) ?_); dsimp only [List.replicate, List.append_nil, List.cons_append, List.nil_append, List.length_cons, List.length_nil])
    | (refine awp_block ?_)
    | (refine awp_cond rfl (fun hcnd => ?_) (fun hcnd => ?_) <;> (try simp at hcnd) <;> (try contradiction) <;> (try (exfalso; omega)))
    | (refine awp_skip ?_)
    | (refine awp_exit ?_; simp only [athen_normal, athen_exit, athen_ret, ablock_self, ablock_ne, ablock_normal, ablock_ret, Nat.reduceBEq])
    | (refine awp_ret ?_; refine ret_go ?_)
    | (refine arunU_no ?_ ?_; (focus (simp [hk, hx', h2', h3, h4, ek, ek1, h6, h7, List.take_of_length_le]; done)); refine arunU_slots (by first | (dsimp only [sput, sset]; done) | rfl) ?_)
    | ((first | refine arunD_nF rfl ?_ ?_ | refine arunD_nT rfl ?_ ?_); (focus (simp [hk, hx', h2', h3, h4, ek, ek1, h6, h7, List.take_of_length_le]; done)); refine arunD_slots' (by first | (dsimp only [sput, sset]; done) | rfl) (by first | (dsimp only [List.tail]; done) | rfl) ?_)
    | (refine fall_go ?_)
    | (simp only [athen_normal, athen_exit, athen_ret, ablock_self, ablock_ne, ablock_normal, ablock_ret, Nat.reduceBEq])
    | (clear hK K; refine hK _ _ ?_; clear hK K)
    | (clear hK K; clear hK K; refine hK _ _ ?_; clear hK K)
    | (clear hK K; clear hK K; clear hK K; refine hK _ _ ?_; clear hK K)
    | (clear hK K; clear hK K; clear hK K; clear hK K; refine hK _ _ ?_; clear hK K)
    | (clear hK K; clear hK K; clear hK K; clear hK K; clear hK K; refine hK _ _ ?_; clear hK K))
    refine awp_loopU (α := Nat) (fun i => (none :: none :: some V.junk :: some V.junk :: some V.junk :: none :: some (V.int .i64 i) :: some V.junk :: some V.junk :: some V.junk :: some V.junk :: some V.junk :: some V.junk :: some V.junk :: some V.junk :: some V.junk :: some V.junk :: some V.junk :: some V.junk :: some V.junk :: some V.junk :: some V.junk :: some V.junk :: some V.junk :: some V.junk :: some V.junk :: some V.junk :: some V.junk :: some V.junk :: some V.junk :: some V.junk :: some V.junk :: some V.junk :: some V.junk :: some V.junk :: some V.junk :: some V.junk :: some V.junk :: some V.junk :: some V.junk :: some V.junk :: some V.junk :: some V.junk :: some V.junk :: some V.junk :: some V.junk :: some V.junk :: some V.junk :: some V.junk :: some V.junk :: some V.junk :: some V.junk :: some V.junk :: some V.junk :: some V.junk :: some V.junk :: some V.junk :: some V.junk :: some V.junk :: some V.junk :: some V.junk :: some V.junk :: some V.junk :: some V.junk :: some V.junk :: some V.junk :: some V.junk :: some V.junk :: some V.junk :: some V.junk :: some V.junk :: some V.junk :: some V.junk :: some V.junk :: some V.junk :: some V.junk :: some V.junk :: some V.junk :: some V.junk :: some V.junk :: some V.junk :: some V.junk :: some V.junk :: some V.junk :: some V.junk :: some V.junk :: some V.junk :: some V.junk :: some V.junk :: some V.junk :: some V.junk :: [])) (fun i => []) (fun i => i ≤ k ∧ ∀ j (h : j < s.length), j < i → okM s[j] = true ∧ ¬ (s[j] = 46 ∧ s.getD (j + 1) 0 = 46)) (fun i => k - i) 0 ⟨by omega, fun j _ h => by omega⟩ ?_ ?_
    · dsimp only [ups_some, ups_none, ups_nil, ups_nil']
      exact Le.mk [] (by simp) (rowsRen_of (by simp) (by simp [rowsOver])) (by simp)
    rintro i ⟨hi, hall2⟩ KL2 hL2
    dsimp only [ups_some, ups_none, ups_nil, ups_nil']
    rcases Nat.lt_or_ge i k with hi | hi
    · have his : i < s.length := by omega
      have his1 : i + 1 < s.length := by omega
      have ei : ((i : Int) + 1).toNat = i + 1 := by omega
      have hgd : s.getD (i + 1) 0 = s[i + 1] := by rw [List.getD_eq_getElem?_getD, List.getElem?_eq_getElem his1]; rfl
      have hstep : okM s[i] = true → ¬ (s[i] = 46 ∧ s[i + 1] = 46) → i + 1 ≤ k ∧ ∀ j (h : j < s.length), j < i + 1 → okM s[j] = true ∧ ¬ (s[j] = 46 ∧ s.getD (j + 1) 0 = 46) := fun hx hy => ⟨by omega, fun j hj h => by
        rcases Nat.lt_or_ge j i with h3 | h3
        · exact hall2 j hj h3
        · obtain rfl : j = i := by omega
          rw [hgd]
          exact ⟨hx, hy⟩⟩
      have hfalse : okM s[i] = false → mailB s = false := fun h => by
        have : (s.take k).all okM = false := by
          refine all_false (i := i) (by omega) ?_
          rw [List.getElem_take]; exact h
        rw [hB, this]; simp
      have hfalse2 : s[i] = 46 → s[i + 1] = 46 → mailB s = false := fun ha hb => by
        have : ddB (s.take k) = true := by
          refine (dd_iff _).2 ⟨i, ?_, ?_, ?_⟩
          · rw [hwl]
            rcases Nat.lt_or_ge (i + 1) k with h | h
            · exact h
            · have : i + 1 = k := by omega
              subst this
              rw [hx] at hb; cases hb
          · rw [List.getElem_take]; exact ha
          · rw [List.getElem_take]; exact hb
        rw [hB, this]; rfl
      obtain ⟨c, hcc⟩ : ∃ c, s[i] = c := ⟨_, rfl⟩
      obtain ⟨c2, hcc2⟩ : ∃ c, s[i + 1] = c := ⟨_, rfl⟩
      rw [hcc] at hstep hfalse hfalse2
      rw [hcc2] at hstep hfalse2
      have ha := alnum_call c
      have hb := among_call c setL (by decide)
      have fin : okM c = true → ¬ (c = 46 ∧ c2 = 46) → KL2 = KL2 := fun _ _ => rfl
      by_cases hd46 : c = 46
      · subst hd46
        have ha' : PCall Tryd.prog 42 [.int .u8 46] (.bool false) := alnum_call 46
        have hb' : PCall Tryd.prog 62 [.int .u8 46, .str setL] (.bool true) := among_call 46 setL (by decide)
        unfold setL at hb'
        by_cases hc2 : (c2.toNat : Int) = 46
        · repeat' (first
    | ((first | refine arunU_go0 rfl fun K9 h9 => ?_ | refine arunD_goF rfl rfl fun K9 h9 => ?_ | refine arunD_goT rfl rfl fun K9 h9 => ?_ | (refine arunU_go ?_ ?_; (focus (simp [hcc, hcc2, ei, hc2]; done)); intro K9 h9) | ((first | refine arunD_gF rfl ?_ ?_ | refine arunD_gT rfl ?_ ?_); (focus (simp [hcc, hcc2, ei, hc2]; done)); intro K9 h9)); simp (disch := (first | (simp; done) | omega | (simp; omega))) [hcc, hcc2, ei, hc2]; (try simp (disch := (first | omega | (simp; omega))) only [wrap_i64, wrap_u8, wrap_u32, wrap_u64, Int.tmod_eq_emod_of_nonneg, Int.tdiv_eq_ediv_of_nonneg]); (first | refine acall_pure (ha') (by simp) ?_ | refine acall_pure (hb') (by simp) ?_ | skip); (repeat (refine And.intro (by first | omega | (simp; first | done | omega) | assumption | (intro e9; have e8 := congrArg List.length e9; first | (simp at e8; done) | ((try simp only [List.length_map, List.length_append] at e8); rw [List.length_nil] at e8; omega))) ?_)); (first | refine h9 _ _ (arunU_slots (by first | (dsimp only [sput, sset]; done) | rfl) ?_) | refine h9 _ _ (arunD_slots' (by first | (dsimp only [sput, sset]; done) | rfl) (by first | (dsimp only [List.tail]; done) | rfl) ?_)); clear h9 K9)
    | (refine arunU_end ?_)
    | (refine arunD_end ?_)
    | (refine awp_seq fun K hK => ?_)
    | (refine awp_regionU ?_)
    | (refine hK _ _ ?_; clear hK K)
    | ((first | refine awp_region_draw' (m := 0) (by decide +kernel) [] (by kernel_rfl) (by decide +kernel) ?_); dsimp only [List.replicate, List.append_nil, List.cons_append, List.nil_append, List.length_cons, List.length_nil])
    | (refine awp_block ?_)
    | (refine awp_cond rfl (fun hcnd => ?_) (fun hcnd => ?_) <;> (try simp at hcnd) <;> (try contradiction) <;> (try (exfalso; omega)))
    | (refine awp_skip ?_)
    | (refine awp_exit ?_; simp only [athen_normal, athen_exit, athen_ret, ablock_self, ablock_ne, ablock_normal, ablock_ret, Nat.reduceBEq])
    | (refine awp_ret ?_; refine ret_go ?_)
    | (refine arunU_no ?_ ?_; (focus (simp [hcc, hcc2, ei, hc2]; done)); refine arunU_slots (by first | (dsimp only [sput, sset]; done) | rfl) ?_)
    | ((first | refine arunD_nF rfl ?_ ?_ | refine arunD_nT rfl ?_ ?_); (focus (simp [hcc, hcc2, ei, hc2]; done)); refine arunD_slots' (by first | (dsimp only [sput, sset]; done) | rfl) (by first | (dsimp only [List.tail]; done) | rfl) ?_)
    | (refine fall_go ?_)
    | (simp only [athen_normal, athen_exit, athen_ret, ablock_self, ablock_ne, ablock_normal, ablock_ret, Nat.reduceBEq])
    | (clear hK K; refine hK _ _ ?_; clear hK K)
    | (clear hK K; clear hK K; refine hK _ _ ?_; clear hK K)
    | (clear hK K; clear hK K; clear hK K; refine hK _ _ ?_; clear hK K)
    | (clear hK K; clear hK K; clear hK K; clear hK K; refine hK _ _ ?_; clear hK K)
    | (clear hK K; clear hK K; clear hK K; clear hK K; clear hK K; refine hK _ _ ?_; clear hK K))
          rw [no (hfalse2 rfl (u46.1 hc2))]
          simp
          exact .pure (by simp)
        · repeat' (first
    | ((first | refine arunU_go0 rfl fun K9 h9 => ?_ | refine arunD_goF rfl rfl fun K9 h9 => ?_ | refine arunD_goT rfl rfl fun K9 h9 => ?_ | (refine arunU_go ?_ ?_; (focus (simp [hcc, hcc2, ei, hc2]; done)); intro K9 h9) | ((first | refine arunD_gF rfl ?_ ?_ | refine arunD_gT rfl ?_ ?_); (focus (simp [hcc, hcc2, ei, hc2]; done)); intro K9 h9)); simp (disch := (first | (simp; done) | omega | (simp; omega))) [hcc, hcc2, ei, hc2]; (try simp (disch := (first | omega | (simp; omega))) only [wrap_i64, wrap_u8, wrap_u32, wrap_u64, Int.tmod_eq_emod_of_nonneg, Int.tdiv_eq_ediv_of_nonneg]); (first | refine acall_pure (ha') (by simp) ?_ | refine acall_pure (hb') (by simp) ?_ | skip); (repeat (refine And.intro (by first | omega | (simp; first | done | omega) | assumption | (intro e9; have e8 := congrArg List.length e9; first | (simp at e8; done) | ((try simp only [List.length_map, List.length_append] at e8); rw [List.length_nil] at e8; omega))) ?_)); (first | refine h9 _ _ (arunU_slots (by first | (dsimp only [sput, sset]; done) | rfl) ?_) | refine h9 _ _ (arunD_slots' (by first | (dsimp only [sput, sset]; done) | rfl) (by first | (dsimp only [List.tail]; done) | rfl) ?_)); clear h9 K9)
    | (refine arunU_end ?_)
    | (refine arunD_end ?_)
    | (refine awp_seq fun K hK => ?_)
    | (refine awp_regionU ?_)
    | (refine hK _ _ ?_; clear hK K)
    | ((first | refine awp_region_draw' (m := 0) (by decide +kernel) [] (by kernel_rfl) (by decide +kernel) ?_); dsimp only [List.replicate, List.append_nil, List.cons_append, List.nil_append, List.length_cons, List.length_nil])
    | (refine awp_block ?_)
    | (refine awp_cond rfl (fun hcnd => ?_) (fun hcnd => ?_) <;> (try simp at hcnd) <;> (try contradiction) <;> (try (exfalso; omega)))
    | (refine awp_skip ?_)
    | (refine awp_exit ?_; simp only [athen_normal, athen_exit, athen_ret, ablock_self, ablock_ne, ablock_normal, ablock_ret, Nat.reduceBEq])
    | (refine awp_ret ?_; refine ret_go ?_)
    | (refine arunU_no ?_ ?_; (focus (simp [hcc, hcc2, ei, hc2]; done)); refine arunU_slots (by first | (dsimp only [sput, sset]; done) | rfl) ?_)
    | ((first | refine arunD_nF rfl ?_ ?_ | refine arunD_nT rfl ?_ ?_); (focus (simp [hcc, hcc2, ei, hc2]; done)); refine arunD_slots' (by first | (dsimp only [sput, sset]; done) | rfl) (by first | (dsimp only [List.tail]; done) | rfl) ?_)
    | (refine fall_go ?_)
    | (simp only [athen_normal, athen_exit, athen_ret, ablock_self, ablock_ne, ablock_normal, ablock_ret, Nat.reduceBEq])
    | (clear hK K; refine hK _ _ ?_; clear hK K)
    | (clear hK K; clear hK K; refine hK _ _ ?_; clear hK K)
    | (clear hK K; clear hK K; clear hK K; refine hK _ _ ?_; clear hK K)
    | (clear hK K; clear hK K; clear hK K; clear hK K; refine hK _ _ ?_; clear hK K)
    | (clear hK K; clear hK K; clear hK K; clear hK K; clear hK K; refine hK _ _ ?_; clear hK K))
          refine hL2 (i + 1) _ _ (hstep (by decide) (fun h => hc2 (u46.2 h.2))) (by omega) ?_
          exact Le.mk [] (by dsimp only [ups_some, ups_none, ups_nil, ups_nil']; simp) (rowsRen_of (by simp) (by simp [rowsOver])) (by simp)
      have hd46' : ¬ (c.toNat : Int) = 46 := fun e => hd46 (u46.1 e)
      cases hc1 : okB c <;> rw [hc1] at ha
      · by_cases hm : c ∈ setL
        · rw [decide_eq_true hm] at hb
          unfold setL at hb
          repeat' (first
    | ((first | refine arunU_go0 rfl fun K9 h9 => ?_ | refine arunD_goF rfl rfl fun K9 h9 => ?_ | refine arunD_goT rfl rfl fun K9 h9 => ?_ | (refine arunU_go ?_ ?_; (focus (simp [hcc, hd46']; done)); intro K9 h9) | ((first | refine arunD_gF rfl ?_ ?_ | refine arunD_gT rfl ?_ ?_); (focus (simp [hcc, hd46']; done)); intro K9 h9)); simp (disch := (first | (simp; done) | omega | (simp; omega))) [hcc, hd46']; (try simp (disch := (first | omega | (simp; omega))) only [wrap_i64, wrap_u8, wrap_u32, wrap_u64, Int.tmod_eq_emod_of_nonneg, Int.tdiv_eq_ediv_of_nonneg]); (first | refine acall_pure (ha) (by simp) ?_ | refine acall_pure (hb) (by simp) ?_ | skip); (repeat (refine And.intro (by first | omega | (simp; first | done | omega) | assumption | (intro e9; have e8 := congrArg List.length e9; first | (simp at e8; done) | ((try simp only [List.length_map, List.length_append] at e8); rw [List.length_nil] at e8; omega))) ?_)); (first | refine h9 _ _ (arunU_slots (by first | (dsimp only [sput, sset]; done) | rfl) ?_) | refine h9 _ _ (arunD_slots' (by first | (dsimp only [sput, sset]; done) | rfl) (by first | (dsimp only [List.tail]; done) | rfl) ?_)); clear h9 K9)
    | (refine arunU_end ?_)
    | (refine arunD_end ?_)
    | (refine awp_seq fun K hK => ?_)
    | (refine awp_regionU ?_)
    | (refine hK _ _ ?_; clear hK K)
    | ((first | refine awp_region_draw' (m := 0) (by decide +kernel) [] (by kernel_rfl) (by decide +kernel) ?_); dsimp only [List.replicate, List.append_nil, List.cons_append, List.nil_append, List.length_cons, List.length_nil])
    | (refine awp_block ?_)
    | (refine awp_cond rfl (fun hcnd => ?_) (fun hcnd => ?_) <;> (try simp at hcnd) <;> (try contradiction) <;> (try (exfalso; omega)))
    | (refine awp_skip ?_)
    | (refine awp_exit ?_; simp only [athen_normal, athen_exit, athen_ret, ablock_self, ablock_ne, ablock_normal, ablock_ret, Nat.reduceBEq])
    | (refine awp_ret ?_; refine ret_go ?_)
    | (refine arunU_no ?_ ?_; (focus (simp [hcc, hd46']; done)); refine arunU_slots (by first | (dsimp only [sput, sset]; done) | rfl) ?_)
    | ((first | refine arunD_nF rfl ?_ ?_ | refine arunD_nT rfl ?_ ?_); (focus (simp [hcc, hd46']; done)); refine arunD_slots' (by first | (dsimp only [sput, sset]; done) | rfl) (by first | (dsimp only [List.tail]; done) | rfl) ?_)
    | (refine fall_go ?_)
    | (simp only [athen_normal, athen_exit, athen_ret, ablock_self, ablock_ne, ablock_normal, ablock_ret, Nat.reduceBEq])
    | (clear hK K; refine hK _ _ ?_; clear hK K)
    | (clear hK K; clear hK K; refine hK _ _ ?_; clear hK K)
    | (clear hK K; clear hK K; clear hK K; refine hK _ _ ?_; clear hK K)
    | (clear hK K; clear hK K; clear hK K; clear hK K; refine hK _ _ ?_; clear hK K)
    | (clear hK K; clear hK K; clear hK K; clear hK K; clear hK K; refine hK _ _ ?_; clear hK K))
          refine hL2 (i + 1) _ _ (hstep (by simp [okM, hm]) (fun h => hd46 h.1)) (by omega) ?_
          exact Le.mk [] (by dsimp only [ups_some, ups_none, ups_nil, ups_nil']; simp) (rowsRen_of (by simp) (by simp [rowsOver])) (by simp)
        · rw [decide_eq_false hm] at hb
          have hno := no (hfalse (by simp [okM, hc1, hm]))
          unfold setL at hb
          repeat' (first
    | ((first | refine arunU_go0 rfl fun K9 h9 => ?_ | refine arunD_goF rfl rfl fun K9 h9 => ?_ | refine arunD_goT rfl rfl fun K9 h9 => ?_ | (refine arunU_go ?_ ?_; (focus (simp [hcc, hd46']; done)); intro K9 h9) | ((first | refine arunD_gF rfl ?_ ?_ | refine arunD_gT rfl ?_ ?_); (focus (simp [hcc, hd46']; done)); intro K9 h9)); simp (disch := (first | (simp; done) | omega | (simp; omega))) [hcc, hd46']; (try simp (disch := (first | omega | (simp; omega))) only [wrap_i64, wrap_u8, wrap_u32, wrap_u64, Int.tmod_eq_emod_of_nonneg, Int.tdiv_eq_ediv_of_nonneg]); (first | refine acall_pure (ha) (by simp) ?_ | refine acall_pure (hb) (by simp) ?_ | skip); (repeat (refine And.intro (by first | omega | (simp; first | done | omega) | assumption | (intro e9; have e8 := congrArg List.length e9; first | (simp at e8; done) | ((try simp only [List.length_map, List.length_append] at e8); rw [List.length_nil] at e8; omega))) ?_)); (first | refine h9 _ _ (arunU_slots (by first | (dsimp only [sput, sset]; done) | rfl) ?_) | refine h9 _ _ (arunD_slots' (by first | (dsimp only [sput, sset]; done) | rfl) (by first | (dsimp only [List.tail]; done) | rfl) ?_)); clear h9 K9)
    | (refine arunU_end ?_)
    | (refine arunD_end ?_)
    | (refine awp_seq fun K hK => ?_)
    | (refine awp_regionU ?_)
    | (refine hK _ _ ?_; clear hK K)
    | ((first | refine awp_region_draw' (m := 0) (by decide +kernel) [] (by kernel_rfl) (by decide +kernel) ?_); dsimp only [List.replicate, List.append_nil, List.cons_append, List.nil_append, List.length_cons, List.length_nil])
    | (refine awp_block ?_)
    | (refine awp_cond rfl (fun hcnd => ?_) (fun hcnd => ?_) <;> (try simp at hcnd) <;> (try contradiction) <;> (try (exfalso; omega)))
    | (refine awp_skip ?_)
    | (refine awp_exit ?_; simp only [athen_normal, athen_exit, athen_ret, ablock_self, ablock_ne, ablock_normal, ablock_ret, Nat.reduceBEq])
    | (refine awp_ret ?_; refine ret_go ?_)
    | (refine arunU_no ?_ ?_; (focus (simp [hcc, hd46']; done)); refine arunU_slots (by first | (dsimp only [sput, sset]; done) | rfl) ?_)
    | ((first | refine arunD_nF rfl ?_ ?_ | refine arunD_nT rfl ?_ ?_); (focus (simp [hcc, hd46']; done)); refine arunD_slots' (by first | (dsimp only [sput, sset]; done) | rfl) (by first | (dsimp only [List.tail]; done) | rfl) ?_)
    | (refine fall_go ?_)
    | (simp only [athen_normal, athen_exit, athen_ret, ablock_self, ablock_ne, ablock_normal, ablock_ret, Nat.reduceBEq])
    | (clear hK K; refine hK _ _ ?_; clear hK K)
    | (clear hK K; clear hK K; refine hK _ _ ?_; clear hK K)
    | (clear hK K; clear hK K; clear hK K; refine hK _ _ ?_; clear hK K)
    | (clear hK K; clear hK K; clear hK K; clear hK K; refine hK _ _ ?_; clear hK K)
    | (clear hK K; clear hK K; clear hK K; clear hK K; clear hK K; refine hK _ _ ?_; clear hK K))
          rw [hno]
          simp
          exact .pure (by simp)
      · repeat' (first
    | ((first | refine arunU_go0 rfl fun K9 h9 => ?_ | refine arunD_goF rfl rfl fun K9 h9 => ?_ | refine arunD_goT rfl rfl fun K9 h9 => ?_ | (refine arunU_go ?_ ?_; (focus (simp [hcc, hd46']; done)); intro K9 h9) | ((first | refine arunD_gF rfl ?_ ?_ | refine arunD_gT rfl ?_ ?_); (focus (simp [hcc, hd46']; done)); intro K9 h9)); simp (disch := (first | (simp; done) | omega | (simp; omega))) [hcc, hd46']; (try simp (disch := (first | omega | (simp; omega))) only [wrap_i64, wrap_u8, wrap_u32, wrap_u64, Int.tmod_eq_emod_of_nonneg, Int.tdiv_eq_ediv_of_nonneg]); (first | refine acall_pure (ha) (by simp) ?_ | skip); (repeat (refine And.intro (by first | omega | (simp; first | done | omega) | assumption | (intro e9; have e8 := congrArg List.length e9; first | (simp at e8; done) | ((try simp only [List.length_map, List.length_append] at e8); rw [List.length_nil] at e8; omega))) ?_)); (first | refine h9 _ _ (arunU_slots (by first | (dsimp only [sput, sset]; done) | rfl) ?_) | refine h9 _ _ (arunD_slots' (by first | (dsimp only [sput, sset]; done) | rfl) (by first | (dsimp only [List.tail]; done) | rfl) ?_)); clear h9 K9)
    | (refine arunU_end ?_)
    | (refine arunD_end ?_)
    | (refine awp_seq fun K hK => ?_)
    | (refine awp_regionU ?_)
    | (refine hK _ _ ?_; clear hK K)
    | ((first | refine awp_region_draw' (m := 0) (by decide +kernel) [] (by kernel_rfl) (by decide +kernel) ?_); dsimp only [List.replicate, List.append_nil, List.cons_append, List.nil_append, List.length_cons, List.length_nil])
    | (refine awp_block ?_)
    | (refine awp_cond rfl (fun hcnd => ?_) (fun hcnd => ?_) <;> (try simp at hcnd) <;> (try contradiction) <;> (try (exfalso; omega)))
    | (refine awp_skip ?_)
    | (refine awp_exit ?_; simp only [athen_normal, athen_exit, athen_ret, ablock_self, ablock_ne, ablock_normal, ablock_ret, Nat.reduceBEq])
    | (refine awp_ret ?_; refine ret_go ?_)
    | (refine arunU_no ?_ ?_; (focus (simp [hcc, hd46']; done)); refine arunU_slots (by first | (dsimp only [sput, sset]; done) | rfl) ?_)
    | ((first | refine arunD_nF rfl ?_ ?_ | refine arunD_nT rfl ?_ ?_); (focus (simp [hcc, hd46']; done)); refine arunD_slots' (by first | (dsimp only [sput, sset]; done) | rfl) (by first | (dsimp only [List.tail]; done) | rfl) ?_)
    | (refine fall_go ?_)
    | (simp only [athen_normal, athen_exit, athen_ret, ablock_self, ablock_ne, ablock_normal, ablock_ret, Nat.reduceBEq])
    | (clear hK K; refine hK _ _ ?_; clear hK K)
    | (clear hK K; clear hK K; refine hK _ _ ?_; clear hK K)
    | (clear hK K; clear hK K; clear hK K; refine hK _ _ ?_; clear hK K)
    | (clear hK K; clear hK K; clear hK K; clear hK K; refine hK _ _ ?_; clear hK K)
    | (clear hK K; clear hK K; clear hK K; clear hK K; clear hK K; refine hK _ _ ?_; clear hK K))
        refine hL2 (i + 1) _ _ (hstep (by simp [okM, hc1]) (fun h => hd46 h.1)) (by omega) ?_
        exact Le.mk [] (by dsimp only [ups_some, ups_none, ups_nil, ups_nil']; simp) (rowsRen_of (by simp) (by simp [rowsOver])) (by simp)
    · obtain rfl : i = k := by omega
      have hyes : mailB s = true := by
        have q1 : (s.take i).all okM = true := all_true fun j hj => by
          rw [List.getElem_take]
          exact (hall2 j (by omega) (by omega)).1
        have q2 : ddB (s.take i) = false := by
          cases h : ddB (s.take i) with
          | false => rfl
          | true =>
            exfalso
            obtain ⟨j, hj, h8, h9⟩ := (dd_iff _).1 h
            rw [List.getElem_take] at h8 h9
            refine (hall2 j (by omega) (by omega)).2 ⟨h8, ?_⟩
            rw [List.getD_eq_getElem?_getD, List.getElem?_eq_getElem (by omega)]
            exact h9
        rw [hB, q1, q2]; rfl
      repeat' (first
    | ((first | refine arunU_go0 rfl fun K9 h9 => ?_ | refine arunD_goF rfl rfl fun K9 h9 => ?_ | refine arunD_goT rfl rfl fun K9 h9 => ?_ | (refine arunU_go ?_ ?_; (focus (simp [ek, List.take_of_length_le]; done)); intro K9 h9) | ((first | refine arunD_gF rfl ?_ ?_ | refine arunD_gT rfl ?_ ?_); (focus (simp [ek, List.take_of_length_le]; done)); intro K9 h9)); simp (disch := (first | (simp; done) | omega | (simp; omega))) [ek, List.take_of_length_le]; (try simp (disch := (first | omega | (simp; omega))) only [wrap_i64, wrap_u8, wrap_u32, wrap_u64, Int.tmod_eq_emod_of_nonneg, Int.tdiv_eq_ediv_of_nonneg]); (repeat (refine And.intro (by first | omega | (simp; first | done | omega) | assumption | (intro e9; have e8 := congrArg List.length e9; first | (simp at e8; done) | ((try simp only [List.length_map, List.length_append] at e8); rw [List.length_nil] at e8; omega))) ?_)); (first | refine h9 _ _ (arunU_slots (by first | (dsimp only [sput, sset]; done) | rfl) ?_) | refine h9 _ _ (arunD_slots' (by first | (dsimp only [sput, sset]; done) | rfl) (by first | (dsimp only [List.tail]; done) | rfl) ?_)); clear h9 K9)
    | (refine arunU_end ?_)
    | (refine arunD_end ?_)
    | (refine awp_seq fun K hK => ?_)
    | (refine awp_regionU ?_)
    | (refine hK _ _ ?_; clear hK K)
    | ((first | refine awp_region_draw' (m := 0) (by decide +kernel) [] (by kernel_rfl) (by decide +kernel) ?_); dsimp only [List.replicate, List.append_nil, List.cons_append, List.nil_append, List.length_cons, List.length_nil])
    | (refine awp_block ?_)
    | (refine awp_cond rfl (fun hcnd => ?_) (fun hcnd => ?_) <;> (try simp at hcnd) <;> (try contradiction) <;> (try (exfalso; omega)))
    | (refine awp_skip ?_)
    | (refine awp_exit ?_; simp only [athen_normal, athen_exit, athen_ret, ablock_self, ablock_ne, ablock_normal, ablock_ret, Nat.reduceBEq])
    | (refine awp_ret ?_; refine ret_go ?_)
    | (refine arunU_no ?_ ?_; (focus (simp [ek, List.take_of_length_le]; done)); refine arunU_slots (by first | (dsimp only [sput, sset]; done) | rfl) ?_)
    | ((first | refine arunD_nF rfl ?_ ?_ | refine arunD_nT rfl ?_ ?_); (focus (simp [ek, List.take_of_length_le]; done)); refine arunD_slots' (by first | (dsimp only [sput, sset]; done) | rfl) (by first | (dsimp only [List.tail]; done) | rfl) ?_)
    | (refine fall_go ?_)
    | (simp only [athen_normal, athen_exit, athen_ret, ablock_self, ablock_ne, ablock_normal, ablock_ret, Nat.reduceBEq])
    | (clear hK K; refine hK _ _ ?_; clear hK K)
    | (clear hK K; clear hK K; refine hK _ _ ?_; clear hK K)
    | (clear hK K; clear hK K; clear hK K; refine hK _ _ ?_; clear hK K)
    | (clear hK K; clear hK K; clear hK K; clear hK K; refine hK _ _ ?_; clear hK K)
    | (clear hK K; clear hK K; clear hK K; clear hK K; clear hK K; refine hK _ _ ?_; clear hK K))
      rw [partsV, if_pos hyes, hbef, haft]
      simp [List.take_of_length_le]
      exact .pure (by simp)
  · unfold partsV; split <;> simp
end Go.Proofs.YtegmenlonpgnpaaDoor
