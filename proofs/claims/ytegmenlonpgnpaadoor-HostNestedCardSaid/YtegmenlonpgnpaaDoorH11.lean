/-
  HOST: mail addresses.
  Conditions: none.
-/
import Derived.Test.YtegmenlonpgnpaaDoorH10
namespace Go.Proofs.YtegmenlonpgnpaaDoor
open Go.VS Go.Hst
set_option linter.all false
attribute [local irreducible] arun arunD arunU AWp aend

def setL : List UInt8 := [33, 35, 36, 37, 38, 39, 42, 43, 45, 47, 61, 63, 94, 95, 96, 123, 124, 125, 126, 46]
def okM (c : UInt8) : Bool := okB c || decide (c ∈ setL)
def ddB (w : List UInt8) : Bool := Lib.contains w [46, 46]
def locB (l : List UInt8) : Bool := decide (1 ≤ l.length) && (decide (l.length ≤ 64) && (!(l.getD 0 0 == 46) && (!(l.getD (l.length - 1) 0 == 46) && (!ddB l && l.all okM))))
theorem u46 {a : UInt8} : ((a.toNat : Int) = 46) ↔ a = 46 := u8i a 46 46 rfl

set_option maxHeartbeats 4000000 in
theorem local_call (l : List UInt8) (hl : l.length ≤ 1000000) : PCall Tryd.prog 46 [.str l] (.bool (locB l)) := by
  refine pcall_body Tryd.func46 rfl Tryd.call46 ?_ ?_
  rotate_left 1
  refine awp_slots (s' := [(.str l : V), .junk, .junk, .junk, .junk, .junk, .junk, .junk, .junk, .junk, .junk, .junk, .junk, .junk, .junk, .junk, .junk, .junk, .junk, .junk, .junk, .junk, .junk, .junk, .junk, .junk, .junk, .junk, .junk, .junk, .junk, .junk, .junk, .junk, .junk, .junk, .junk, .junk, .junk, .junk, .junk, .junk, .junk, .junk, .junk, .junk, .junk, .junk, .junk, .junk]) rfl ?_
  by_cases h1 : l = []
  · subst h1
    repeat' (first
    | ((first | refine arunU_go0 rfl fun K9 h9 => ?_ | (refine arunU_go ?_ ?_; (focus (simp ; done)); intro K9 h9)); simp (disch := (first | (simp; done) | omega | (simp; omega))) ; (try simp (disch := (first | omega | (simp; omega))) only [wrap_i64, wrap_u8, wrap_u32, wrap_u64, Int.tmod_eq_emod_of_nonneg, Int.tdiv_eq_ediv_of_nonneg]); (repeat (refine And.intro (by first | omega | (simp; first | done | omega) | assumption | (intro e9; have e8 := congrArg List.length e9; first | (simp at e8; done) | ((try simp only [List.length_map, List.length_append] at e8); rw [List.length_nil] at e8; omega))) ?_)); (first | refine h9 _ _ (arunU_slots (by first | (dsimp only [sput, sset]; done) | rfl) ?_)); clear h9 K9)
    | (refine arunU_end ?_)
    | (refine awp_seq fun K hK => ?_)
    | (refine awp_regionU ?_)
    | (refine hK _ _ ?_; clear hK K)
    | (refine awp_block ?_)
    | (refine awp_cond rfl (fun hcnd => ?_) (fun hcnd => ?_) <;> (try simp at hcnd) <;> (try contradiction) <;> (try (exfalso; omega)))
    | (refine awp_skip ?_)
    | (refine awp_exit ?_; simp only [athen_normal, athen_exit, athen_ret, ablock_self, ablock_ne, ablock_normal, ablock_ret, Nat.reduceBEq])
    | (refine awp_ret ?_; refine ret_go ?_)
    | (refine arunU_no ?_ ?_; (focus (simp ; done)); refine arunU_slots (by first | (dsimp only [sput, sset]; done) | rfl) ?_)
    | (refine fall_go ?_)
    | (simp only [athen_normal, athen_exit, athen_ret, ablock_self, ablock_ne, ablock_normal, ablock_ret, Nat.reduceBEq])
    | (clear hK K; refine hK _ _ ?_; clear hK K)
    | (clear hK K; clear hK K; refine hK _ _ ?_; clear hK K)
    | (clear hK K; clear hK K; clear hK K; refine hK _ _ ?_; clear hK K)
    | (clear hK K; clear hK K; clear hK K; clear hK K; refine hK _ _ ?_; clear hK K)
    | (clear hK K; clear hK K; clear hK K; clear hK K; clear hK K; refine hK _ _ ?_; clear hK K))
    exact .pure .bool
  have hpos : 0 < l.length := List.length_pos_iff.2 h1
  replace h1 : ¬ (l.length : Int) < 1 := by omega
  by_cases h2 : (64 : Int) < l.length
  · repeat' (first
    | ((first | refine arunU_go0 rfl fun K9 h9 => ?_ | (refine arunU_go ?_ ?_; (focus (simp [h1, h2]; done)); intro K9 h9)); simp (disch := (first | (simp; done) | omega | (simp; omega))) [h1, h2]; (try simp (disch := (first | omega | (simp; omega))) only [wrap_i64, wrap_u8, wrap_u32, wrap_u64, Int.tmod_eq_emod_of_nonneg, Int.tdiv_eq_ediv_of_nonneg]); (repeat (refine And.intro (by first | omega | (simp; first | done | omega) | assumption | (intro e9; have e8 := congrArg List.length e9; first | (simp at e8; done) | ((try simp only [List.length_map, List.length_append] at e8); rw [List.length_nil] at e8; omega))) ?_)); (first | refine h9 _ _ (arunU_slots (by first | (dsimp only [sput, sset]; done) | rfl) ?_)); clear h9 K9)
    | (refine arunU_end ?_)
    | (refine awp_seq fun K hK => ?_)
    | (refine awp_regionU ?_)
    | (refine hK _ _ ?_; clear hK K)
    | (refine awp_block ?_)
    | (refine awp_cond rfl (fun hcnd => ?_) (fun hcnd => ?_) <;> (try simp at hcnd) <;> (try contradiction) <;> (try (exfalso; omega)))
    | (refine awp_skip ?_)
    | (refine awp_exit ?_; simp only [athen_normal, athen_exit, athen_ret, ablock_self, ablock_ne, ablock_normal, ablock_ret, Nat.reduceBEq])
    | (refine awp_ret ?_; refine ret_go ?_)
    | (refine arunU_no ?_ ?_; (focus (simp [h1, h2]; done)); refine arunU_slots (by first | (dsimp only [sput, sset]; done) | rfl) ?_)
    | (refine fall_go ?_)
    | (simp only [athen_normal, athen_exit, athen_ret, ablock_self, ablock_ne, ablock_normal, ablock_ret, Nat.reduceBEq])
    | (clear hK K; refine hK _ _ ?_; clear hK K)
    | (clear hK K; clear hK K; refine hK _ _ ?_; clear hK K)
    | (clear hK K; clear hK K; clear hK K; refine hK _ _ ?_; clear hK K)
    | (clear hK K; clear hK K; clear hK K; clear hK K; refine hK _ _ ?_; clear hK K)
    | (clear hK K; clear hK K; clear hK K; clear hK K; clear hK K; refine hK _ _ ?_; clear hK K))
    have : locB l = false := by
      have : decide (l.length ≤ 64) = false := by simp; omega
      simp [locB, this]
    rw [this]
    exact .pure .bool
  have e1 : ((l.length : Int) - 1).toNat = l.length - 1 := by omega
  have g0 : l.getD 0 0 = l[0]'(by omega) := by simp [show 0 < l.length by omega]
  have g1 : l.getD (l.length - 1) 0 = l[l.length - 1]'(by omega) := by simp [show l.length - 1 < l.length by omega]
  by_cases h3 : ((l[0]'(by omega)).toNat : Int) = 46
  · repeat' (first
    | ((first | refine arunU_go0 rfl fun K9 h9 => ?_ | (refine arunU_go ?_ ?_; (focus (simp [h1, h2, h3]; done)); intro K9 h9)); simp (disch := (first | (simp; done) | omega | (simp; omega))) [h1, h2, h3]; (try simp (disch := (first | omega | (simp; omega))) only [wrap_i64, wrap_u8, wrap_u32, wrap_u64, Int.tmod_eq_emod_of_nonneg, Int.tdiv_eq_ediv_of_nonneg]); (repeat (refine And.intro (by first | omega | (simp; first | done | omega) | assumption | (intro e9; have e8 := congrArg List.length e9; first | (simp at e8; done) | ((try simp only [List.length_map, List.length_append] at e8); rw [List.length_nil] at e8; omega))) ?_)); (first | refine h9 _ _ (arunU_slots (by first | (dsimp only [sput, sset]; done) | rfl) ?_)); clear h9 K9)
    | (refine arunU_end ?_)
    | (refine awp_seq fun K hK => ?_)
    | (refine awp_regionU ?_)
    | (refine hK _ _ ?_; clear hK K)
    | (refine awp_block ?_)
    | (refine awp_cond rfl (fun hcnd => ?_) (fun hcnd => ?_) <;> (try simp at hcnd) <;> (try contradiction) <;> (try (exfalso; omega)))
    | (refine awp_skip ?_)
    | (refine awp_exit ?_; simp only [athen_normal, athen_exit, athen_ret, ablock_self, ablock_ne, ablock_normal, ablock_ret, Nat.reduceBEq])
    | (refine awp_ret ?_; refine ret_go ?_)
    | (refine arunU_no ?_ ?_; (focus (simp [h1, h2, h3]; done)); refine arunU_slots (by first | (dsimp only [sput, sset]; done) | rfl) ?_)
    | (refine fall_go ?_)
    | (simp only [athen_normal, athen_exit, athen_ret, ablock_self, ablock_ne, ablock_normal, ablock_ret, Nat.reduceBEq])
    | (clear hK K; refine hK _ _ ?_; clear hK K)
    | (clear hK K; clear hK K; refine hK _ _ ?_; clear hK K)
    | (clear hK K; clear hK K; clear hK K; refine hK _ _ ?_; clear hK K)
    | (clear hK K; clear hK K; clear hK K; clear hK K; refine hK _ _ ?_; clear hK K)
    | (clear hK K; clear hK K; clear hK K; clear hK K; clear hK K; refine hK _ _ ?_; clear hK K))
    have : locB l = false := by
      have : l[0]'(by omega) = 46 := u46.1 h3
      rw [locB, g0, this]; simp
    rw [this]
    exact .pure .bool
  by_cases h4 : ((l[l.length - 1]'(by omega)).toNat : Int) = 46
  · repeat' (first
    | ((first | refine arunU_go0 rfl fun K9 h9 => ?_ | (refine arunU_go ?_ ?_; (focus (simp [h1, h2, h3, h4, e1]; done)); intro K9 h9)); simp (disch := (first | (simp; done) | omega | (simp; omega))) [h1, h2, h3, h4, e1]; (try simp (disch := (first | omega | (simp; omega))) only [wrap_i64, wrap_u8, wrap_u32, wrap_u64, Int.tmod_eq_emod_of_nonneg, Int.tdiv_eq_ediv_of_nonneg]); (repeat (refine And.intro (by first | omega | (simp; first | done | omega) | assumption | (intro e9; have e8 := congrArg List.length e9; first | (simp at e8; done) | ((try simp only [List.length_map, List.length_append] at e8); rw [List.length_nil] at e8; omega))) ?_)); (first | refine h9 _ _ (arunU_slots (by first | (dsimp only [sput, sset]; done) | rfl) ?_)); clear h9 K9)
    | (refine arunU_end ?_)
    | (refine awp_seq fun K hK => ?_)
    | (refine awp_regionU ?_)
    | (refine hK _ _ ?_; clear hK K)
    | (refine awp_block ?_)
    | (refine awp_cond rfl (fun hcnd => ?_) (fun hcnd => ?_) <;> (try simp at hcnd) <;> (try contradiction) <;> (try (exfalso; omega)))
    | (refine awp_skip ?_)
    | (refine awp_exit ?_; simp only [athen_normal, athen_exit, athen_ret, ablock_self, ablock_ne, ablock_normal, ablock_ret, Nat.reduceBEq])
    | (refine awp_ret ?_; refine ret_go ?_)
    | (refine arunU_no ?_ ?_; (focus (simp [h1, h2, h3, h4, e1]; done)); refine arunU_slots (by first | (dsimp only [sput, sset]; done) | rfl) ?_)
    | (refine fall_go ?_)
    | (simp only [athen_normal, athen_exit, athen_ret, ablock_self, ablock_ne, ablock_normal, ablock_ret, Nat.reduceBEq])
    | (clear hK K; refine hK _ _ ?_; clear hK K)
    | (clear hK K; clear hK K; refine hK _ _ ?_; clear hK K)
    | (clear hK K; clear hK K; clear hK K; refine hK _ _ ?_; clear hK K)
    | (clear hK K; clear hK K; clear hK K; clear hK K; refine hK _ _ ?_; clear hK K)
    | (clear hK K; clear hK K; clear hK K; clear hK K; clear hK K; refine hK _ _ ?_; clear hK K))
    have : locB l = false := by
      have : l[l.length - 1]'(by omega) = 46 := u46.1 h4
      rw [locB, g0, g1, this]; simp
    rw [this]
    exact .pure .bool
  have hk := contains_call l [46, 46] (by omega)
  have hB : locB l = (!ddB l && l.all okM) := by
    have q1 : decide (1 ≤ l.length) = true := by simp; omega
    have q2 : decide (l.length ≤ 64) = true := by simp; omega
    have q3 : l[0]'(by omega) ≠ 46 := fun e => h3 (u46.2 e)
    have q4 : l[l.length - 1]'(by omega) ≠ 46 := fun e => h4 (u46.2 e)
    rw [locB, g0, g1, beq_false_of_ne q3, beq_false_of_ne q4, q1, q2]; rfl
  rw [hB]
  unfold ddB
  cases h5 : Lib.contains l [46, 46] <;> rw [h5] at hk
  case true =>
    repeat' (first
    | ((first | refine arunU_go0 rfl fun K9 h9 => ?_ | (refine arunU_go ?_ ?_; (focus (simp [h1, h2, h3, h4, e1]; done)); intro K9 h9)); simp (disch := (first | (simp; done) | omega | (simp; omega))) [h1, h2, h3, h4, e1]; (try simp (disch := (first | omega | (simp; omega))) only [wrap_i64, wrap_u8, wrap_u32, wrap_u64, Int.tmod_eq_emod_of_nonneg, Int.tdiv_eq_ediv_of_nonneg]); (first | refine acall_pure (hk) (by simp) ?_ | skip); (repeat (refine And.intro (by first | omega | (simp; first | done | omega) | assumption | (intro e9; have e8 := congrArg List.length e9; first | (simp at e8; done) | ((try simp only [List.length_map, List.length_append] at e8); rw [List.length_nil] at e8; omega))) ?_)); (first | refine h9 _ _ (arunU_slots (by first | (dsimp only [sput, sset]; done) | rfl) ?_)); clear h9 K9)
    | (refine arunU_end ?_)
    | (refine awp_seq fun K hK => ?_)
    | (refine awp_regionU ?_)
    | (refine hK _ _ ?_; clear hK K)
    | (refine awp_block ?_)
    | (refine awp_cond rfl (fun hcnd => ?_) (fun hcnd => ?_) <;> (try simp at hcnd) <;> (try contradiction) <;> (try (exfalso; omega)))
    | (refine awp_skip ?_)
    | (refine awp_exit ?_; simp only [athen_normal, athen_exit, athen_ret, ablock_self, ablock_ne, ablock_normal, ablock_ret, Nat.reduceBEq])
    | (refine awp_ret ?_; refine ret_go ?_)
    | (refine arunU_no ?_ ?_; (focus (simp [h1, h2, h3, h4, e1]; done)); refine arunU_slots (by first | (dsimp only [sput, sset]; done) | rfl) ?_)
    | (refine fall_go ?_)
    | (simp only [athen_normal, athen_exit, athen_ret, ablock_self, ablock_ne, ablock_normal, ablock_ret, Nat.reduceBEq])
    | (clear hK K; refine hK _ _ ?_; clear hK K)
    | (clear hK K; clear hK K; refine hK _ _ ?_; clear hK K)
    | (clear hK K; clear hK K; clear hK K; refine hK _ _ ?_; clear hK K)
    | (clear hK K; clear hK K; clear hK K; clear hK K; refine hK _ _ ?_; clear hK K)
    | (clear hK K; clear hK K; clear hK K; clear hK K; clear hK K; refine hK _ _ ?_; clear hK K))
    exact .pure .bool
  simp only [Bool.not_false, Bool.true_and]
  repeat' (first
    | ((first | refine arunU_go0 rfl fun K9 h9 => ?_ | (refine arunU_go ?_ ?_; (focus (simp [h1, h2, h3, h4, e1]; done)); intro K9 h9)); simp (disch := (first | (simp; done) | omega | (simp; omega))) [h1, h2, h3, h4, e1]; (try simp (disch := (first | omega | (simp; omega))) only [wrap_i64, wrap_u8, wrap_u32, wrap_u64, Int.tmod_eq_emod_of_nonneg, Int.tdiv_eq_ediv_of_nonneg]); (first | refine acall_pure (hk) (by simp) ?_ | skip); (repeat (refine And.intro (by first | omega | (simp; first | done | omega) | assumption | (intro e9; have e8 := congrArg List.length e9; first | (simp at e8; done) | ((try simp only [List.length_map, List.length_append] at e8); rw [List.length_nil] at e8; omega))) ?_)); (first | refine h9 _ _ (arunU_slots (by first | (dsimp only [sput, sset]; done) | rfl) ?_)); clear h9 K9)
    | (refine arunU_end ?_)
    | (refine awp_seq fun K hK => ?_)
    | (refine awp_regionU ?_)
    | (refine hK _ _ ?_; clear hK K)
    | (refine awp_block ?_)
    | (refine awp_cond rfl (fun hcnd => ?_) (fun hcnd => ?_) <;> (try simp at hcnd) <;> (try contradiction) <;> (try (exfalso; omega)))
    | (refine awp_skip ?_)
    | (refine awp_exit ?_; simp only [athen_normal, athen_exit, athen_ret, ablock_self, ablock_ne, ablock_normal, ablock_ret, Nat.reduceBEq])
    | (refine awp_ret ?_; refine ret_go ?_)
    | (refine arunU_no ?_ ?_; (focus (simp [h1, h2, h3, h4, e1]; done)); refine arunU_slots (by first | (dsimp only [sput, sset]; done) | rfl) ?_)
    | (refine fall_go ?_)
    | (simp only [athen_normal, athen_exit, athen_ret, ablock_self, ablock_ne, ablock_normal, ablock_ret, Nat.reduceBEq])
    | (clear hK K; refine hK _ _ ?_; clear hK K)
    | (clear hK K; clear hK K; refine hK _ _ ?_; clear hK K)
    | (clear hK K; clear hK K; clear hK K; refine hK _ _ ?_; clear hK K)
    | (clear hK K; clear hK K; clear hK K; clear hK K; refine hK _ _ ?_; clear hK K)
    | (clear hK K; clear hK K; clear hK K; clear hK K; clear hK K; refine hK _ _ ?_; clear hK K))
  · refine awp_loopU (α := Nat) (fun i => [some V.junk, none, some V.junk, none, some V.junk, some V.junk, some V.junk, some V.junk, some V.junk, some V.junk, some V.junk, some V.junk, some V.junk, some V.junk, some V.junk, some V.junk, some V.junk, some V.junk, some V.junk, some V.junk, some V.junk, some V.junk, some V.junk, some V.junk, some V.junk, some V.junk, some V.junk, some V.junk, some V.junk, some V.junk, some V.junk, some V.junk, none, none, some (V.int .i64 i), some V.junk, some V.junk, some V.junk, some V.junk, some V.junk, some V.junk, some V.junk, some V.junk, some V.junk, some V.junk, some V.junk, some V.junk, some V.junk, some V.junk, some V.junk]) (fun i => [.live (l.map byteV)]) (fun i => i ≤ l.length ∧ ∀ j (h : j < l.length), j < i → okM l[j] = true) (fun i => l.length - i) 0 ⟨by omega, fun j _ h => by omega⟩ ?_ ?_
    · dsimp only [ups_some, ups_none, ups_nil, ups_nil']
      exact Le.mk [some 0] (by simp) (rowsRen_of (by simp) (by simp [rowsOver])) (by simp)
    rintro i ⟨hi, hall⟩ KL hL
    dsimp only [ups_some, ups_none, ups_nil, ups_nil']
    rcases Nat.lt_or_ge i l.length with hi | hi
    · have hstep : okM l[i] = true → i + 1 ≤ l.length ∧ ∀ j (h : j < l.length), j < i + 1 → okM l[j] = true := fun hx => ⟨by omega, fun j hj h => by
        rcases Nat.lt_or_ge j i with h3 | h3
        · exact hall j hj h3
        · obtain rfl : j = i := by omega
          exact hx⟩
      have hfalse : okM l[i] = false → l.all okM = false := all_false hi
      obtain ⟨c, hcc⟩ : ∃ c, l[i] = c := ⟨_, rfl⟩
      rw [hcc] at hstep hfalse
      have hc1' := letter_call c
      have hc2' := digit_call c
      have hc3' := indexByte_call setL c
      cases hc1 : letB c <;> rw [hc1] at hc1'
      · cases hc2 : digB c <;> rw [hc2] at hc2'
        · by_cases hc3 : 0 ≤ Lib.indexByte setL c
          · unfold setL at hc3 hc3'
            repeat' (first
    | ((first | refine arunU_go0 rfl fun K9 h9 => ?_ | (refine arunU_go ?_ ?_; (focus (simp [hcc, hc3]; done)); intro K9 h9)); simp (disch := (first | (simp; done) | omega | (simp; omega))) [hcc, hc3]; (try simp (disch := (first | omega | (simp; omega))) only [wrap_i64, wrap_u8, wrap_u32, wrap_u64, Int.tmod_eq_emod_of_nonneg, Int.tdiv_eq_ediv_of_nonneg]); (first | refine acall_pure (hc1') (by simp) ?_ | refine acall_pure (hc2') (by simp) ?_ | refine acall_pure (hc3') (by simp) ?_ | skip); (repeat (refine And.intro (by first | omega | (simp; first | done | omega) | assumption | (intro e9; have e8 := congrArg List.length e9; first | (simp at e8; done) | ((try simp only [List.length_map, List.length_append] at e8); rw [List.length_nil] at e8; omega))) ?_)); (first | refine h9 _ _ (arunU_slots (by first | (dsimp only [sput, sset]; done) | rfl) ?_)); clear h9 K9)
    | (refine arunU_end ?_)
    | (refine awp_seq fun K hK => ?_)
    | (refine awp_regionU ?_)
    | (refine hK _ _ ?_; clear hK K)
    | (refine awp_block ?_)
    | (refine awp_cond rfl (fun hcnd => ?_) (fun hcnd => ?_) <;> (try simp at hcnd) <;> (try contradiction) <;> (try (exfalso; omega)))
    | (refine awp_skip ?_)
    | (refine awp_exit ?_; simp only [athen_normal, athen_exit, athen_ret, ablock_self, ablock_ne, ablock_normal, ablock_ret, Nat.reduceBEq])
    | (refine awp_ret ?_; refine ret_go ?_)
    | (refine arunU_no ?_ ?_; (focus (simp [hcc, hc3]; done)); refine arunU_slots (by first | (dsimp only [sput, sset]; done) | rfl) ?_)
    | (refine fall_go ?_)
    | (simp only [athen_normal, athen_exit, athen_ret, ablock_self, ablock_ne, ablock_normal, ablock_ret, Nat.reduceBEq])
    | (clear hK K; refine hK _ _ ?_; clear hK K)
    | (clear hK K; clear hK K; refine hK _ _ ?_; clear hK K)
    | (clear hK K; clear hK K; clear hK K; refine hK _ _ ?_; clear hK K)
    | (clear hK K; clear hK K; clear hK K; clear hK K; refine hK _ _ ?_; clear hK K)
    | (clear hK K; clear hK K; clear hK K; clear hK K; clear hK K; refine hK _ _ ?_; clear hK K))
            refine hL (i + 1) _ _ (hstep ?_) (by omega) ?_
            · have := (indexByte_in c setL).1 hc3
              simp [okM, this]
            exact Le.mk [some 0] (by dsimp only [ups_some, ups_none, ups_nil, ups_nil']; simp) (rowsRen_of (by simp) (by simp [rowsOver])) (by simp)
          · have hnot : ¬ c ∈ setL := fun h => hc3 ((indexByte_in c setL).2 h)
            unfold setL at hc3 hc3'
            repeat' (first
    | ((first | refine arunU_go0 rfl fun K9 h9 => ?_ | (refine arunU_go ?_ ?_; (focus (simp [hcc, hc3]; done)); intro K9 h9)); simp (disch := (first | (simp; done) | omega | (simp; omega))) [hcc, hc3]; (try simp (disch := (first | omega | (simp; omega))) only [wrap_i64, wrap_u8, wrap_u32, wrap_u64, Int.tmod_eq_emod_of_nonneg, Int.tdiv_eq_ediv_of_nonneg]); (first | refine acall_pure (hc1') (by simp) ?_ | refine acall_pure (hc2') (by simp) ?_ | refine acall_pure (hc3') (by simp) ?_ | skip); (repeat (refine And.intro (by first | omega | (simp; first | done | omega) | assumption | (intro e9; have e8 := congrArg List.length e9; first | (simp at e8; done) | ((try simp only [List.length_map, List.length_append] at e8); rw [List.length_nil] at e8; omega))) ?_)); (first | refine h9 _ _ (arunU_slots (by first | (dsimp only [sput, sset]; done) | rfl) ?_)); clear h9 K9)
    | (refine arunU_end ?_)
    | (refine awp_seq fun K hK => ?_)
    | (refine awp_regionU ?_)
    | (refine hK _ _ ?_; clear hK K)
    | (refine awp_block ?_)
    | (refine awp_cond rfl (fun hcnd => ?_) (fun hcnd => ?_) <;> (try simp at hcnd) <;> (try contradiction) <;> (try (exfalso; omega)))
    | (refine awp_skip ?_)
    | (refine awp_exit ?_; simp only [athen_normal, athen_exit, athen_ret, ablock_self, ablock_ne, ablock_normal, ablock_ret, Nat.reduceBEq])
    | (refine awp_ret ?_; refine ret_go ?_)
    | (refine arunU_no ?_ ?_; (focus (simp [hcc, hc3]; done)); refine arunU_slots (by first | (dsimp only [sput, sset]; done) | rfl) ?_)
    | (refine fall_go ?_)
    | (simp only [athen_normal, athen_exit, athen_ret, ablock_self, ablock_ne, ablock_normal, ablock_ret, Nat.reduceBEq])
    | (clear hK K; refine hK _ _ ?_; clear hK K)
    | (clear hK K; clear hK K; refine hK _ _ ?_; clear hK K)
    | (clear hK K; clear hK K; clear hK K; refine hK _ _ ?_; clear hK K)
    | (clear hK K; clear hK K; clear hK K; clear hK K; refine hK _ _ ?_; clear hK K)
    | (clear hK K; clear hK K; clear hK K; clear hK K; clear hK K; refine hK _ _ ?_; clear hK K))
            rw [hfalse (by simp [okM, okB_eq, hc1, hc2, hnot])]
            exact .pure .bool
        · repeat' (first
    | ((first | refine arunU_go0 rfl fun K9 h9 => ?_ | (refine arunU_go ?_ ?_; (focus (simp [hcc]; done)); intro K9 h9)); simp (disch := (first | (simp; done) | omega | (simp; omega))) [hcc]; (try simp (disch := (first | omega | (simp; omega))) only [wrap_i64, wrap_u8, wrap_u32, wrap_u64, Int.tmod_eq_emod_of_nonneg, Int.tdiv_eq_ediv_of_nonneg]); (first | refine acall_pure (hc1') (by simp) ?_ | refine acall_pure (hc2') (by simp) ?_ | skip); (repeat (refine And.intro (by first | omega | (simp; first | done | omega) | assumption | (intro e9; have e8 := congrArg List.length e9; first | (simp at e8; done) | ((try simp only [List.length_map, List.length_append] at e8); rw [List.length_nil] at e8; omega))) ?_)); (first | refine h9 _ _ (arunU_slots (by first | (dsimp only [sput, sset]; done) | rfl) ?_)); clear h9 K9)
    | (refine arunU_end ?_)
    | (refine awp_seq fun K hK => ?_)
    | (refine awp_regionU ?_)
    | (refine hK _ _ ?_; clear hK K)
    | (refine awp_block ?_)
    | (refine awp_cond rfl (fun hcnd => ?_) (fun hcnd => ?_) <;> (try simp at hcnd) <;> (try contradiction) <;> (try (exfalso; omega)))
    | (refine awp_skip ?_)
    | (refine awp_exit ?_; simp only [athen_normal, athen_exit, athen_ret, ablock_self, ablock_ne, ablock_normal, ablock_ret, Nat.reduceBEq])
    | (refine awp_ret ?_; refine ret_go ?_)
    | (refine arunU_no ?_ ?_; (focus (simp [hcc]; done)); refine arunU_slots (by first | (dsimp only [sput, sset]; done) | rfl) ?_)
    | (refine fall_go ?_)
    | (simp only [athen_normal, athen_exit, athen_ret, ablock_self, ablock_ne, ablock_normal, ablock_ret, Nat.reduceBEq])
    | (clear hK K; refine hK _ _ ?_; clear hK K)
    | (clear hK K; clear hK K; refine hK _ _ ?_; clear hK K)
    | (clear hK K; clear hK K; clear hK K; refine hK _ _ ?_; clear hK K)
    | (clear hK K; clear hK K; clear hK K; clear hK K; refine hK _ _ ?_; clear hK K)
    | (clear hK K; clear hK K; clear hK K; clear hK K; clear hK K; refine hK _ _ ?_; clear hK K))
          refine hL (i + 1) _ _ (hstep (by simp [okM, okB_eq, hc2])) (by omega) ?_
          exact Le.mk [some 0] (by dsimp only [ups_some, ups_none, ups_nil, ups_nil']; simp) (rowsRen_of (by simp) (by simp [rowsOver])) (by simp)
      · repeat' (first
    | ((first | refine arunU_go0 rfl fun K9 h9 => ?_ | (refine arunU_go ?_ ?_; (focus (simp [hcc]; done)); intro K9 h9)); simp (disch := (first | (simp; done) | omega | (simp; omega))) [hcc]; (try simp (disch := (first | omega | (simp; omega))) only [wrap_i64, wrap_u8, wrap_u32, wrap_u64, Int.tmod_eq_emod_of_nonneg, Int.tdiv_eq_ediv_of_nonneg]); (first | refine acall_pure (hc1') (by simp) ?_ | refine acall_pure (hc2') (by simp) ?_ | skip); (repeat (refine And.intro (by first | omega | (simp; first | done | omega) | assumption | (intro e9; have e8 := congrArg List.length e9; first | (simp at e8; done) | ((try simp only [List.length_map, List.length_append] at e8); rw [List.length_nil] at e8; omega))) ?_)); (first | refine h9 _ _ (arunU_slots (by first | (dsimp only [sput, sset]; done) | rfl) ?_)); clear h9 K9)
    | (refine arunU_end ?_)
    | (refine awp_seq fun K hK => ?_)
    | (refine awp_regionU ?_)
    | (refine hK _ _ ?_; clear hK K)
    | (refine awp_block ?_)
    | (refine awp_cond rfl (fun hcnd => ?_) (fun hcnd => ?_) <;> (try simp at hcnd) <;> (try contradiction) <;> (try (exfalso; omega)))
    | (refine awp_skip ?_)
    | (refine awp_exit ?_; simp only [athen_normal, athen_exit, athen_ret, ablock_self, ablock_ne, ablock_normal, ablock_ret, Nat.reduceBEq])
    | (refine awp_ret ?_; refine ret_go ?_)
    | (refine arunU_no ?_ ?_; (focus (simp [hcc]; done)); refine arunU_slots (by first | (dsimp only [sput, sset]; done) | rfl) ?_)
    | (refine fall_go ?_)
    | (simp only [athen_normal, athen_exit, athen_ret, ablock_self, ablock_ne, ablock_normal, ablock_ret, Nat.reduceBEq])
    | (clear hK K; refine hK _ _ ?_; clear hK K)
    | (clear hK K; clear hK K; refine hK _ _ ?_; clear hK K)
    | (clear hK K; clear hK K; clear hK K; refine hK _ _ ?_; clear hK K)
    | (clear hK K; clear hK K; clear hK K; clear hK K; refine hK _ _ ?_; clear hK K)
    | (clear hK K; clear hK K; clear hK K; clear hK K; clear hK K; refine hK _ _ ?_; clear hK K))
        refine hL (i + 1) _ _ (hstep (by simp [okM, okB_eq, hc1])) (by omega) ?_
        exact Le.mk [some 0] (by dsimp only [ups_some, ups_none, ups_nil, ups_nil']; simp) (rowsRen_of (by simp) (by simp [rowsOver])) (by simp)
    · repeat' (first
    | ((first | refine arunU_go0 rfl fun K9 h9 => ?_ | (refine arunU_go ?_ ?_; (focus (simp ; done)); intro K9 h9)); simp (disch := (first | (simp; done) | omega | (simp; omega))) ; (try simp (disch := (first | omega | (simp; omega))) only [wrap_i64, wrap_u8, wrap_u32, wrap_u64, Int.tmod_eq_emod_of_nonneg, Int.tdiv_eq_ediv_of_nonneg]); (repeat (refine And.intro (by first | omega | (simp; first | done | omega) | assumption | (intro e9; have e8 := congrArg List.length e9; first | (simp at e8; done) | ((try simp only [List.length_map, List.length_append] at e8); rw [List.length_nil] at e8; omega))) ?_)); (first | refine h9 _ _ (arunU_slots (by first | (dsimp only [sput, sset]; done) | rfl) ?_)); clear h9 K9)
    | (refine arunU_end ?_)
    | (refine awp_seq fun K hK => ?_)
    | (refine awp_regionU ?_)
    | (refine hK _ _ ?_; clear hK K)
    | (refine awp_block ?_)
    | (refine awp_cond rfl (fun hcnd => ?_) (fun hcnd => ?_) <;> (try simp at hcnd) <;> (try contradiction) <;> (try (exfalso; omega)))
    | (refine awp_skip ?_)
    | (refine awp_exit ?_; simp only [athen_normal, athen_exit, athen_ret, ablock_self, ablock_ne, ablock_normal, ablock_ret, Nat.reduceBEq])
    | (refine awp_ret ?_; refine ret_go ?_)
    | (refine arunU_no ?_ ?_; (focus (simp ; done)); refine arunU_slots (by first | (dsimp only [sput, sset]; done) | rfl) ?_)
    | (refine fall_go ?_)
    | (simp only [athen_normal, athen_exit, athen_ret, ablock_self, ablock_ne, ablock_normal, ablock_ret, Nat.reduceBEq])
    | (clear hK K; refine hK _ _ ?_; clear hK K)
    | (clear hK K; clear hK K; refine hK _ _ ?_; clear hK K)
    | (clear hK K; clear hK K; clear hK K; refine hK _ _ ?_; clear hK K)
    | (clear hK K; clear hK K; clear hK K; clear hK K; refine hK _ _ ?_; clear hK K)
    | (clear hK K; clear hK K; clear hK K; clear hK K; clear hK K; refine hK _ _ ?_; clear hK K))
      rw [all_true fun j hj => hall j hj (by omega)]
      exact .pure .bool
  · exact .bool

def mailB (s : List UInt8) : Bool := decide (64 ∈ s) && (decide (s.length ≤ 128) && (locB (befC 64 s) && dnsB (aftC 64 s)))
def mbaseB (s : List UInt8) : Bool := decide (s.length ≤ 128) && (mailB s || dnsB (Lib.trimPrefix s [46]))
def mmatchB (a b : List UInt8) : Bool := mailB a && (mailB b && (befC 64 a == befC 64 b && eqB (aftC 64 a) (aftC 64 b)))
def domB (s : List UInt8) : List UInt8 := if 64 ∈ s then aftC 64 s else s
def inB (s b : List UInt8) : Bool := eqB s b || (b.getD 0 0 == 46 && endB s b)
def mwithinB (s b : List UInt8) : Bool := mbaseB b && (mbaseB s && (if mailB b = true then mmatchB s b else inB (domB s) b))

theorem mail_call (s : List UInt8) (hs : s.length ≤ 1000000) : PCall Tryd.prog 19 [.str s] (.bool (mailB s)) := by
  refine pcall_body Tryd.func19 rfl Tryd.call19 ?_ ?_
  rotate_left 1
  refine awp_slots (s' := [(.str s : V), .junk, .junk, .junk, .junk, .junk, .junk, .junk, .junk, .junk, .junk, .junk, .junk, .junk, .junk, .junk, .junk, .junk, .junk, .junk, .junk, .junk, .junk, .junk, .junk, .junk]) rfl ?_
  have hb := bef_len 64 s
  have ha := aft_len 64 s
  have hc1 := cut_call s 64 (by omega)
  have hc2 := local_call (befC 64 s) (by omega)
  have hc3 := dns_call (aftC 64 s) (by omega)
  unfold mailB
  cases h1 : decide (64 ∈ s) <;> rw [h1] at hc1
  · repeat' (first
    | ((first | refine arunU_go0 rfl fun K9 h9 => ?_ | (refine arunU_go ?_ ?_; (focus (simp ; done)); intro K9 h9)); simp (disch := (first | (simp; done) | omega | (simp; omega))) ; (try simp (disch := (first | omega | (simp; omega))) only [wrap_i64, wrap_u8, wrap_u32, wrap_u64, Int.tmod_eq_emod_of_nonneg, Int.tdiv_eq_ediv_of_nonneg]); (first | refine acall_pure (hc1) (by simp) ?_ | skip); (repeat (refine And.intro (by first | omega | (simp; first | done | omega) | assumption | (intro e9; have e8 := congrArg List.length e9; first | (simp at e8; done) | ((try simp only [List.length_map, List.length_append] at e8); rw [List.length_nil] at e8; omega))) ?_)); (first | refine h9 _ _ (arunU_slots (by first | (dsimp only [sput, sset]; done) | rfl) ?_)); clear h9 K9)
    | (refine arunU_end ?_)
    | (refine awp_seq fun K hK => ?_)
    | (refine awp_regionU ?_)
    | (refine hK _ _ ?_; clear hK K)
    | (refine awp_ret ?_; refine ret_go ?_)
    | (refine arunU_no ?_ ?_; (focus (simp ; done)); refine arunU_slots (by first | (dsimp only [sput, sset]; done) | rfl) ?_)
    | (refine fall_go ?_)
    | (simp only [athen_normal, athen_exit, athen_ret, ablock_self, ablock_ne, ablock_normal, ablock_ret, Nat.reduceBEq])
    | (clear hK K; refine hK _ _ ?_; clear hK K)
    | (clear hK K; clear hK K; refine hK _ _ ?_; clear hK K)
    | (clear hK K; clear hK K; clear hK K; refine hK _ _ ?_; clear hK K)
    | (clear hK K; clear hK K; clear hK K; clear hK K; refine hK _ _ ?_; clear hK K)
    | (clear hK K; clear hK K; clear hK K; clear hK K; clear hK K; refine hK _ _ ?_; clear hK K))
    exact .pure .bool
  by_cases h2 : (s.length : Int) ≤ 128
  · have h2' : decide (s.length ≤ 128) = true := by simp; omega
    rw [h2']
    cases h3 : locB (befC 64 s) <;> rw [h3] at hc2
    · repeat' (first
    | ((first | refine arunU_go0 rfl fun K9 h9 => ?_ | (refine arunU_go ?_ ?_; (focus (simp [h2]; done)); intro K9 h9)); simp (disch := (first | (simp; done) | omega | (simp; omega))) [h2]; (try simp (disch := (first | omega | (simp; omega))) only [wrap_i64, wrap_u8, wrap_u32, wrap_u64, Int.tmod_eq_emod_of_nonneg, Int.tdiv_eq_ediv_of_nonneg]); (first | refine acall_pure (hc1) (by simp) ?_ | refine acall_pure (hc2) (by simp) ?_ | refine acall_pure (hc3) (by simp) ?_ | skip); (repeat (refine And.intro (by first | omega | (simp; first | done | omega) | assumption | (intro e9; have e8 := congrArg List.length e9; first | (simp at e8; done) | ((try simp only [List.length_map, List.length_append] at e8); rw [List.length_nil] at e8; omega))) ?_)); (first | refine h9 _ _ (arunU_slots (by first | (dsimp only [sput, sset]; done) | rfl) ?_)); clear h9 K9)
    | (refine arunU_end ?_)
    | (refine awp_seq fun K hK => ?_)
    | (refine awp_regionU ?_)
    | (refine hK _ _ ?_; clear hK K)
    | (refine awp_ret ?_; refine ret_go ?_)
    | (refine arunU_no ?_ ?_; (focus (simp [h2]; done)); refine arunU_slots (by first | (dsimp only [sput, sset]; done) | rfl) ?_)
    | (refine fall_go ?_)
    | (simp only [athen_normal, athen_exit, athen_ret, ablock_self, ablock_ne, ablock_normal, ablock_ret, Nat.reduceBEq])
    | (clear hK K; refine hK _ _ ?_; clear hK K)
    | (clear hK K; clear hK K; refine hK _ _ ?_; clear hK K)
    | (clear hK K; clear hK K; clear hK K; refine hK _ _ ?_; clear hK K)
    | (clear hK K; clear hK K; clear hK K; clear hK K; refine hK _ _ ?_; clear hK K)
    | (clear hK K; clear hK K; clear hK K; clear hK K; clear hK K; refine hK _ _ ?_; clear hK K))
      exact .pure .bool
    · repeat' (first
    | ((first | refine arunU_go0 rfl fun K9 h9 => ?_ | (refine arunU_go ?_ ?_; (focus (simp [h2]; done)); intro K9 h9)); simp (disch := (first | (simp; done) | omega | (simp; omega))) [h2]; (try simp (disch := (first | omega | (simp; omega))) only [wrap_i64, wrap_u8, wrap_u32, wrap_u64, Int.tmod_eq_emod_of_nonneg, Int.tdiv_eq_ediv_of_nonneg]); (first | refine acall_pure (hc1) (by simp) ?_ | refine acall_pure (hc2) (by simp) ?_ | refine acall_pure (hc3) (by simp) ?_ | skip); (repeat (refine And.intro (by first | omega | (simp; first | done | omega) | assumption | (intro e9; have e8 := congrArg List.length e9; first | (simp at e8; done) | ((try simp only [List.length_map, List.length_append] at e8); rw [List.length_nil] at e8; omega))) ?_)); (first | refine h9 _ _ (arunU_slots (by first | (dsimp only [sput, sset]; done) | rfl) ?_)); clear h9 K9)
    | (refine arunU_end ?_)
    | (refine awp_seq fun K hK => ?_)
    | (refine awp_regionU ?_)
    | (refine hK _ _ ?_; clear hK K)
    | (refine awp_ret ?_; refine ret_go ?_)
    | (refine arunU_no ?_ ?_; (focus (simp [h2]; done)); refine arunU_slots (by first | (dsimp only [sput, sset]; done) | rfl) ?_)
    | (refine fall_go ?_)
    | (simp only [athen_normal, athen_exit, athen_ret, ablock_self, ablock_ne, ablock_normal, ablock_ret, Nat.reduceBEq])
    | (clear hK K; refine hK _ _ ?_; clear hK K)
    | (clear hK K; clear hK K; refine hK _ _ ?_; clear hK K)
    | (clear hK K; clear hK K; clear hK K; refine hK _ _ ?_; clear hK K)
    | (clear hK K; clear hK K; clear hK K; clear hK K; refine hK _ _ ?_; clear hK K)
    | (clear hK K; clear hK K; clear hK K; clear hK K; clear hK K; refine hK _ _ ?_; clear hK K))
      exact .pure .bool
  · have h2' : decide (s.length ≤ 128) = false := by simp; omega
    rw [h2']
    repeat' (first
    | ((first | refine arunU_go0 rfl fun K9 h9 => ?_ | (refine arunU_go ?_ ?_; (focus (simp [h2]; done)); intro K9 h9)); simp (disch := (first | (simp; done) | omega | (simp; omega))) [h2]; (try simp (disch := (first | omega | (simp; omega))) only [wrap_i64, wrap_u8, wrap_u32, wrap_u64, Int.tmod_eq_emod_of_nonneg, Int.tdiv_eq_ediv_of_nonneg]); (first | refine acall_pure (hc1) (by simp) ?_ | refine acall_pure (hc2) (by simp) ?_ | refine acall_pure (hc3) (by simp) ?_ | skip); (repeat (refine And.intro (by first | omega | (simp; first | done | omega) | assumption | (intro e9; have e8 := congrArg List.length e9; first | (simp at e8; done) | ((try simp only [List.length_map, List.length_append] at e8); rw [List.length_nil] at e8; omega))) ?_)); (first | refine h9 _ _ (arunU_slots (by first | (dsimp only [sput, sset]; done) | rfl) ?_)); clear h9 K9)
    | (refine arunU_end ?_)
    | (refine awp_seq fun K hK => ?_)
    | (refine awp_regionU ?_)
    | (refine hK _ _ ?_; clear hK K)
    | (refine awp_ret ?_; refine ret_go ?_)
    | (refine arunU_no ?_ ?_; (focus (simp [h2]; done)); refine arunU_slots (by first | (dsimp only [sput, sset]; done) | rfl) ?_)
    | (refine fall_go ?_)
    | (simp only [athen_normal, athen_exit, athen_ret, ablock_self, ablock_ne, ablock_normal, ablock_ret, Nat.reduceBEq])
    | (clear hK K; refine hK _ _ ?_; clear hK K)
    | (clear hK K; clear hK K; refine hK _ _ ?_; clear hK K)
    | (clear hK K; clear hK K; clear hK K; refine hK _ _ ?_; clear hK K)
    | (clear hK K; clear hK K; clear hK K; clear hK K; refine hK _ _ ?_; clear hK K)
    | (clear hK K; clear hK K; clear hK K; clear hK K; clear hK K; refine hK _ _ ?_; clear hK K))
    exact .pure .bool
  · exact .bool

theorem mbase_call (s : List UInt8) (hs : s.length ≤ 1000000) : PCall Tryd.prog 21 [.str s] (.bool (mbaseB s)) := by
  refine pcall_body Tryd.func21 rfl Tryd.call21 ?_ ?_
  rotate_left 1
  refine awp_slots (s' := [(.str s : V), .junk, .junk, .junk, .junk, .junk, .junk, .junk, .junk, .junk, .junk, .junk, .junk, .junk, .junk]) rfl ?_
  have hl := trimPrefix_len s [46]
  have hc1 := mail_call s hs
  have hc2 := trimPrefix_call s [46]
  have hc3 := dns_call (Lib.trimPrefix s [46]) (by omega)
  unfold mbaseB
  by_cases h2 : (s.length : Int) ≤ 128
  · have h2' : decide (s.length ≤ 128) = true := by simp; omega
    rw [h2']
    cases h3 : mailB s <;> rw [h3] at hc1
    · repeat' (first
    | ((first | refine arunU_go0 rfl fun K9 h9 => ?_ | (refine arunU_go ?_ ?_; (focus (simp [h2]; done)); intro K9 h9)); simp (disch := (first | (simp; done) | omega | (simp; omega))) [h2]; (try simp (disch := (first | omega | (simp; omega))) only [wrap_i64, wrap_u8, wrap_u32, wrap_u64, Int.tmod_eq_emod_of_nonneg, Int.tdiv_eq_ediv_of_nonneg]); (first | refine acall_pure (hc1) (by simp) ?_ | refine acall_pure (hc2) (by simp) ?_ | refine acall_pure (hc3) (by simp) ?_ | skip); (repeat (refine And.intro (by first | omega | (simp; first | done | omega) | assumption | (intro e9; have e8 := congrArg List.length e9; first | (simp at e8; done) | ((try simp only [List.length_map, List.length_append] at e8); rw [List.length_nil] at e8; omega))) ?_)); (first | refine h9 _ _ (arunU_slots (by first | (dsimp only [sput, sset]; done) | rfl) ?_)); clear h9 K9)
    | (refine arunU_end ?_)
    | (refine awp_seq fun K hK => ?_)
    | (refine awp_regionU ?_)
    | (refine hK _ _ ?_; clear hK K)
    | (refine awp_ret ?_; refine ret_go ?_)
    | (refine arunU_no ?_ ?_; (focus (simp [h2]; done)); refine arunU_slots (by first | (dsimp only [sput, sset]; done) | rfl) ?_)
    | (refine fall_go ?_)
    | (simp only [athen_normal, athen_exit, athen_ret, ablock_self, ablock_ne, ablock_normal, ablock_ret, Nat.reduceBEq])
    | (clear hK K; refine hK _ _ ?_; clear hK K)
    | (clear hK K; clear hK K; refine hK _ _ ?_; clear hK K)
    | (clear hK K; clear hK K; clear hK K; refine hK _ _ ?_; clear hK K)
    | (clear hK K; clear hK K; clear hK K; clear hK K; refine hK _ _ ?_; clear hK K)
    | (clear hK K; clear hK K; clear hK K; clear hK K; clear hK K; refine hK _ _ ?_; clear hK K))
      exact .pure .bool
    · repeat' (first
    | ((first | refine arunU_go0 rfl fun K9 h9 => ?_ | (refine arunU_go ?_ ?_; (focus (simp [h2]; done)); intro K9 h9)); simp (disch := (first | (simp; done) | omega | (simp; omega))) [h2]; (try simp (disch := (first | omega | (simp; omega))) only [wrap_i64, wrap_u8, wrap_u32, wrap_u64, Int.tmod_eq_emod_of_nonneg, Int.tdiv_eq_ediv_of_nonneg]); (first | refine acall_pure (hc1) (by simp) ?_ | refine acall_pure (hc2) (by simp) ?_ | refine acall_pure (hc3) (by simp) ?_ | skip); (repeat (refine And.intro (by first | omega | (simp; first | done | omega) | assumption | (intro e9; have e8 := congrArg List.length e9; first | (simp at e8; done) | ((try simp only [List.length_map, List.length_append] at e8); rw [List.length_nil] at e8; omega))) ?_)); (first | refine h9 _ _ (arunU_slots (by first | (dsimp only [sput, sset]; done) | rfl) ?_)); clear h9 K9)
    | (refine arunU_end ?_)
    | (refine awp_seq fun K hK => ?_)
    | (refine awp_regionU ?_)
    | (refine hK _ _ ?_; clear hK K)
    | (refine awp_ret ?_; refine ret_go ?_)
    | (refine arunU_no ?_ ?_; (focus (simp [h2]; done)); refine arunU_slots (by first | (dsimp only [sput, sset]; done) | rfl) ?_)
    | (refine fall_go ?_)
    | (simp only [athen_normal, athen_exit, athen_ret, ablock_self, ablock_ne, ablock_normal, ablock_ret, Nat.reduceBEq])
    | (clear hK K; refine hK _ _ ?_; clear hK K)
    | (clear hK K; clear hK K; refine hK _ _ ?_; clear hK K)
    | (clear hK K; clear hK K; clear hK K; refine hK _ _ ?_; clear hK K)
    | (clear hK K; clear hK K; clear hK K; clear hK K; refine hK _ _ ?_; clear hK K)
    | (clear hK K; clear hK K; clear hK K; clear hK K; clear hK K; refine hK _ _ ?_; clear hK K))
      exact .pure .bool
  · have h2' : decide (s.length ≤ 128) = false := by simp; omega
    rw [h2']
    repeat' (first
    | ((first | refine arunU_go0 rfl fun K9 h9 => ?_ | (refine arunU_go ?_ ?_; (focus (simp [h2]; done)); intro K9 h9)); simp (disch := (first | (simp; done) | omega | (simp; omega))) [h2]; (try simp (disch := (first | omega | (simp; omega))) only [wrap_i64, wrap_u8, wrap_u32, wrap_u64, Int.tmod_eq_emod_of_nonneg, Int.tdiv_eq_ediv_of_nonneg]); (repeat (refine And.intro (by first | omega | (simp; first | done | omega) | assumption | (intro e9; have e8 := congrArg List.length e9; first | (simp at e8; done) | ((try simp only [List.length_map, List.length_append] at e8); rw [List.length_nil] at e8; omega))) ?_)); (first | refine h9 _ _ (arunU_slots (by first | (dsimp only [sput, sset]; done) | rfl) ?_)); clear h9 K9)
    | (refine arunU_end ?_)
    | (refine awp_seq fun K hK => ?_)
    | (refine awp_regionU ?_)
    | (refine hK _ _ ?_; clear hK K)
    | (refine awp_ret ?_; refine ret_go ?_)
    | (refine arunU_no ?_ ?_; (focus (simp [h2]; done)); refine arunU_slots (by first | (dsimp only [sput, sset]; done) | rfl) ?_)
    | (refine fall_go ?_)
    | (simp only [athen_normal, athen_exit, athen_ret, ablock_self, ablock_ne, ablock_normal, ablock_ret, Nat.reduceBEq])
    | (clear hK K; refine hK _ _ ?_; clear hK K)
    | (clear hK K; clear hK K; refine hK _ _ ?_; clear hK K)
    | (clear hK K; clear hK K; clear hK K; refine hK _ _ ?_; clear hK K)
    | (clear hK K; clear hK K; clear hK K; clear hK K; refine hK _ _ ?_; clear hK K)
    | (clear hK K; clear hK K; clear hK K; clear hK K; clear hK K; refine hK _ _ ?_; clear hK K))
    exact .pure .bool
  · exact .bool

theorem mmatch_call (a b : List UInt8) (hl1 : a.length ≤ 1000000) (hl2 : b.length ≤ 1000000) : PCall Tryd.prog 24 [.str a, .str b] (.bool (mmatchB a b)) := by
  refine pcall_body Tryd.func24 rfl Tryd.call24 ?_ ?_
  rotate_left 1
  refine awp_slots (s' := [(.str a : V), (.str b : V), .junk, .junk, .junk, .junk, .junk, .junk, .junk, .junk, .junk, .junk, .junk, .junk, .junk, .junk, .junk, .junk, .junk, .junk, .junk, .junk, .junk, .junk, .junk, .junk, .junk, .junk, .junk, .junk, .junk, .junk, .junk, .junk, .junk, .junk, .junk, .junk, .junk]) rfl ?_
  have ha := aft_len 64 a
  have hb := aft_len 64 b
  have hc1 := mail_call a hl1
  have hc2 := mail_call b hl2
  have hc3 := cut_call a 64 (by omega)
  have hc4 := cut_call b 64 (by omega)
  have hc5 := equal_call (aftC 64 a) (aftC 64 b) (by omega) (by omega)
  unfold mmatchB
  cases h1 : mailB a <;> rw [h1] at hc1
  · repeat' (first
    | ((first | refine arunU_go0 rfl fun K9 h9 => ?_ | (refine arunU_go ?_ ?_; (focus (simp ; done)); intro K9 h9)); simp (disch := (first | (simp; done) | omega | (simp; omega))) ; (try simp (disch := (first | omega | (simp; omega))) only [wrap_i64, wrap_u8, wrap_u32, wrap_u64, Int.tmod_eq_emod_of_nonneg, Int.tdiv_eq_ediv_of_nonneg]); (first | refine acall_pure (hc1) (by simp) ?_ | skip); (repeat (refine And.intro (by first | omega | (simp; first | done | omega) | assumption | (intro e9; have e8 := congrArg List.length e9; first | (simp at e8; done) | ((try simp only [List.length_map, List.length_append] at e8); rw [List.length_nil] at e8; omega))) ?_)); (first | refine h9 _ _ (arunU_slots (by first | (dsimp only [sput, sset]; done) | rfl) ?_)); clear h9 K9)
    | (refine arunU_end ?_)
    | (refine awp_seq fun K hK => ?_)
    | (refine awp_regionU ?_)
    | (refine hK _ _ ?_; clear hK K)
    | (refine awp_cond rfl (fun hcnd => ?_) (fun hcnd => ?_) <;> (try simp at hcnd) <;> (try contradiction) <;> (try (exfalso; omega)))
    | (refine awp_skip ?_)
    | (refine awp_ret ?_; refine ret_go ?_)
    | (refine arunU_no ?_ ?_; (focus (simp ; done)); refine arunU_slots (by first | (dsimp only [sput, sset]; done) | rfl) ?_)
    | (refine fall_go ?_)
    | (simp only [athen_normal, athen_exit, athen_ret, ablock_self, ablock_ne, ablock_normal, ablock_ret, Nat.reduceBEq])
    | (clear hK K; refine hK _ _ ?_; clear hK K)
    | (clear hK K; clear hK K; refine hK _ _ ?_; clear hK K)
    | (clear hK K; clear hK K; clear hK K; refine hK _ _ ?_; clear hK K)
    | (clear hK K; clear hK K; clear hK K; clear hK K; refine hK _ _ ?_; clear hK K)
    | (clear hK K; clear hK K; clear hK K; clear hK K; clear hK K; refine hK _ _ ?_; clear hK K))
    exact .pure .bool
  cases h2 : mailB b <;> rw [h2] at hc2
  · repeat' (first
    | ((first | refine arunU_go0 rfl fun K9 h9 => ?_ | (refine arunU_go ?_ ?_; (focus (simp ; done)); intro K9 h9)); simp (disch := (first | (simp; done) | omega | (simp; omega))) ; (try simp (disch := (first | omega | (simp; omega))) only [wrap_i64, wrap_u8, wrap_u32, wrap_u64, Int.tmod_eq_emod_of_nonneg, Int.tdiv_eq_ediv_of_nonneg]); (first | refine acall_pure (hc1) (by simp) ?_ | refine acall_pure (hc2) (by simp) ?_ | skip); (repeat (refine And.intro (by first | omega | (simp; first | done | omega) | assumption | (intro e9; have e8 := congrArg List.length e9; first | (simp at e8; done) | ((try simp only [List.length_map, List.length_append] at e8); rw [List.length_nil] at e8; omega))) ?_)); (first | refine h9 _ _ (arunU_slots (by first | (dsimp only [sput, sset]; done) | rfl) ?_)); clear h9 K9)
    | (refine arunU_end ?_)
    | (refine awp_seq fun K hK => ?_)
    | (refine awp_regionU ?_)
    | (refine hK _ _ ?_; clear hK K)
    | (refine awp_cond rfl (fun hcnd => ?_) (fun hcnd => ?_) <;> (try simp at hcnd) <;> (try contradiction) <;> (try (exfalso; omega)))
    | (refine awp_skip ?_)
    | (refine awp_ret ?_; refine ret_go ?_)
    | (refine arunU_no ?_ ?_; (focus (simp ; done)); refine arunU_slots (by first | (dsimp only [sput, sset]; done) | rfl) ?_)
    | (refine fall_go ?_)
    | (simp only [athen_normal, athen_exit, athen_ret, ablock_self, ablock_ne, ablock_normal, ablock_ret, Nat.reduceBEq])
    | (clear hK K; refine hK _ _ ?_; clear hK K)
    | (clear hK K; clear hK K; refine hK _ _ ?_; clear hK K)
    | (clear hK K; clear hK K; clear hK K; refine hK _ _ ?_; clear hK K)
    | (clear hK K; clear hK K; clear hK K; clear hK K; refine hK _ _ ?_; clear hK K)
    | (clear hK K; clear hK K; clear hK K; clear hK K; clear hK K; refine hK _ _ ?_; clear hK K))
    exact .pure .bool
  generalize befC 64 a = x at *
  generalize befC 64 b = y at *
  by_cases h3 : x = y
  · subst h3
    repeat' (first
    | ((first | refine arunU_go0 rfl fun K9 h9 => ?_ | (refine arunU_go ?_ ?_; (focus (simp ; done)); intro K9 h9)); simp (disch := (first | (simp; done) | omega | (simp; omega))) ; (try simp (disch := (first | omega | (simp; omega))) only [wrap_i64, wrap_u8, wrap_u32, wrap_u64, Int.tmod_eq_emod_of_nonneg, Int.tdiv_eq_ediv_of_nonneg]); (first | refine acall_pure (hc1) (by simp) ?_ | refine acall_pure (hc2) (by simp) ?_ | refine acall_pure (hc3) (by simp) ?_ | refine acall_pure (hc4) (by simp) ?_ | refine acall_pure (hc5) (by simp) ?_ | skip); (repeat (refine And.intro (by first | omega | (simp; first | done | omega) | assumption | (intro e9; have e8 := congrArg List.length e9; first | (simp at e8; done) | ((try simp only [List.length_map, List.length_append] at e8); rw [List.length_nil] at e8; omega))) ?_)); (first | refine h9 _ _ (arunU_slots (by first | (dsimp only [sput, sset]; done) | rfl) ?_)); clear h9 K9)
    | (refine arunU_end ?_)
    | (refine awp_seq fun K hK => ?_)
    | (refine awp_regionU ?_)
    | (refine hK _ _ ?_; clear hK K)
    | (refine awp_cond rfl (fun hcnd => ?_) (fun hcnd => ?_) <;> (try simp at hcnd) <;> (try contradiction) <;> (try (exfalso; omega)))
    | (refine awp_skip ?_)
    | (refine awp_ret ?_; refine ret_go ?_)
    | (refine arunU_no ?_ ?_; (focus (simp ; done)); refine arunU_slots (by first | (dsimp only [sput, sset]; done) | rfl) ?_)
    | (refine fall_go ?_)
    | (simp only [athen_normal, athen_exit, athen_ret, ablock_self, ablock_ne, ablock_normal, ablock_ret, Nat.reduceBEq])
    | (clear hK K; refine hK _ _ ?_; clear hK K)
    | (clear hK K; clear hK K; refine hK _ _ ?_; clear hK K)
    | (clear hK K; clear hK K; clear hK K; refine hK _ _ ?_; clear hK K)
    | (clear hK K; clear hK K; clear hK K; clear hK K; refine hK _ _ ?_; clear hK K)
    | (clear hK K; clear hK K; clear hK K; clear hK K; clear hK K; refine hK _ _ ?_; clear hK K))
    simp
    exact .pure .bool
  · have h3' : (x == y) = false := by simpa using h3
    repeat' (first
    | ((first | refine arunU_go0 rfl fun K9 h9 => ?_ | (refine arunU_go ?_ ?_; (focus (simp [h3, h3']; done)); intro K9 h9)); simp (disch := (first | (simp; done) | omega | (simp; omega))) [h3, h3']; (try simp (disch := (first | omega | (simp; omega))) only [wrap_i64, wrap_u8, wrap_u32, wrap_u64, Int.tmod_eq_emod_of_nonneg, Int.tdiv_eq_ediv_of_nonneg]); (first | refine acall_pure (hc1) (by simp) ?_ | refine acall_pure (hc2) (by simp) ?_ | refine acall_pure (hc3) (by simp) ?_ | refine acall_pure (hc4) (by simp) ?_ | refine acall_pure (hc5) (by simp) ?_ | skip); (repeat (refine And.intro (by first | omega | (simp; first | done | omega) | assumption | (intro e9; have e8 := congrArg List.length e9; first | (simp at e8; done) | ((try simp only [List.length_map, List.length_append] at e8); rw [List.length_nil] at e8; omega))) ?_)); (first | refine h9 _ _ (arunU_slots (by first | (dsimp only [sput, sset]; done) | rfl) ?_)); clear h9 K9)
    | (refine arunU_end ?_)
    | (refine awp_seq fun K hK => ?_)
    | (refine awp_regionU ?_)
    | (refine hK _ _ ?_; clear hK K)
    | (refine awp_cond rfl (fun hcnd => ?_) (fun hcnd => ?_) <;> (try simp at hcnd) <;> (try contradiction) <;> (try (exfalso; omega)))
    | (refine awp_skip ?_)
    | (refine awp_ret ?_; refine ret_go ?_)
    | (refine arunU_no ?_ ?_; (focus (simp [h3, h3']; done)); refine arunU_slots (by first | (dsimp only [sput, sset]; done) | rfl) ?_)
    | (refine fall_go ?_)
    | (simp only [athen_normal, athen_exit, athen_ret, ablock_self, ablock_ne, ablock_normal, ablock_ret, Nat.reduceBEq])
    | (clear hK K; refine hK _ _ ?_; clear hK K)
    | (clear hK K; clear hK K; refine hK _ _ ?_; clear hK K)
    | (clear hK K; clear hK K; clear hK K; refine hK _ _ ?_; clear hK K)
    | (clear hK K; clear hK K; clear hK K; clear hK K; refine hK _ _ ?_; clear hK K)
    | (clear hK K; clear hK K; clear hK K; clear hK K; clear hK K; refine hK _ _ ?_; clear hK K))
    rw [h3']
    exact .pure .bool
  · exact .bool
end Go.Proofs.YtegmenlonpgnpaaDoor
