/-
  CONTRACTS: what a signature names; Verify.
  CONTRACTS: Verify, both.
  CONTRACTS: Verify of the reference.
  CONTRACTS: trees of the reference.
  CONTRACTS: keys and signatures of the reference's trees.
  Conditions: none.
-/
import Derived.Test.YthcdofbmmibgjaaGg
namespace Go.Proofs.Ythcdofbmmibgjaa
open Go.VS
set_option linter.all false
attribute [local irreducible] arun arunD AWp aend shaS shaT

theorem or_add {a b : Nat} (i : Nat) (h1 : a % 2 ^ i = 0) (h2 : b < 2 ^ i) (h3 : a + b < 4611686018427387904) : bits .or .i64 (a : Int) (b : Int) = ((a + b : Nat) : Int) := by
  rw [(Go.VS.bits_nat (by simp; omega) (by simp; omega)).2.1]
  have e : a ||| b = a + b := by
    have := Nat.two_pow_add_eq_or_of_lt h2 (a / 2 ^ i)
    rw [Nat.mul_div_cancel' (Nat.dvd_of_mod_eq_zero h1)] at this
    exact this.symm
  rw [e, wrap_i64 (by omega) (by omega)]

/-- Bytes read as a number, the first k of them. -/
def acc (b : List UInt8) : Nat → Nat
  | 0 => 0
  | k + 1 => acc b k * 256 + (b.getD k 0).toNat
theorem acc_lt (b : List UInt8) : ∀ k, acc b k < 256 ^ k
  | 0 => by simp [acc]
  | k + 1 => by
    have h := acc_lt b k
    have h2 : (b.getD k 0).toNat < 256 := UInt8.toNat_lt _
    rw [acc, Nat.pow_succ]; omega
theorem acc_lt4 (b : List UInt8) (k : Nat) (hk : k ≤ 4) : acc b k < 4294967296 := Nat.lt_of_lt_of_le (acc_lt b k) (Nat.le_trans (Nat.pow_le_pow_right (by omega) hk) (by omega))
theorem acc_or (b : List UInt8) (k : Nat) (hk : k < 4) (hb : k < b.length) : bits .or .i64 ((acc b k : Int) * 256) (b[k].toNat : Int) = (acc b (k + 1) : Int) := by
  have h := acc_lt4 b k (by omega)
  have h2 : (b[k]).toNat < 256 := UInt8.toNat_lt _
  have := or_add (a := acc b k * 256) (b := (b[k]).toNat) 8 (by omega) (by omega) (by omega)
  rw [acc, List.getD_eq_getElem?_getD, List.getElem?_eq_getElem hb, ← show ((acc b k * 256 : Nat) : Int) = (acc b k : Int) * 256 by omega, this]
  rfl
theorem acc_leafN (s : List UInt8) : (acc s 4 : Int) = leafN s := by simp only [acc, leafN]; omega
theorem acc_take (s : List UInt8) (n : Nat) : ∀ k, k ≤ n → acc (s.take n) k = acc s k
  | 0, _ => rfl
  | k + 1, hk => by
    rw [acc, acc, acc_take s n k (by omega)]
    simp [List.getD_eq_getElem?_getD, show k < n by omega]

theorem leaf_call (s : List UInt8) (hs : s.length ≤ 140737488355328) : PCall Try.prog 33 [.str s] (leafV s) := by
  refine pcall_body Try.func33 rfl Try.call33 ?_ ?_
  rotate_left 1
  refine awp_slots (s' := [(.str s : V), .junk, .junk, .junk, .junk, .junk, .junk, .junk, .junk, .junk, .junk, .junk, .junk, .junk, .junk, .junk, .junk, .junk, .junk, .junk, .junk, .junk, .junk, .junk, .junk]) rfl ?_
  by_cases h4 : s.length < 4
  · have h4' : (s.length : Int) < 4 := by omega
    repeat' (first
    | (refine arun_go0 rfl fun K9 h9 => ?_; simp (disch := (first | (simp; done) | omega | (simp; omega))) [h4']; (try simp (disch := (first | omega | (simp; omega))) only [wrap_i64, wrap_u8, wrap_u32, wrap_u64, Int.tmod_eq_emod_of_nonneg, Int.tdiv_eq_ediv_of_nonneg]); (repeat (refine And.intro (by first | omega | (simp; first | done | omega) | assumption | (intro e9; have e8 := congrArg List.length e9; first | (simp at e8; done) | ((try simp only [List.length_map, List.length_append] at e8); rw [List.length_nil] at e8; omega))) ?_)); (first | refine h9 _ _ (arun_slots (by first | (dsimp only [sput, sset]; done) | rfl) ?_)); clear h9 K9)
    | (refine arun_end ?_)
    | (refine awp_seq fun K hK => ?_)
    | (refine awp_region ?_)
    | (refine hK _ _ ?_; clear hK K)
    | (refine awp_block ?_)
    | (refine awp_cond rfl (fun hcnd => ?_) (fun hcnd => ?_) <;> (try simp at hcnd) <;> (try contradiction) <;> (try (exfalso; omega)))
    | (refine awp_skip ?_)
    | (refine awp_exit ?_; simp only [athen_normal, athen_exit, athen_ret, ablock_self, ablock_ne, ablock_normal, ablock_ret, Nat.reduceBEq])
    | (refine awp_ret ?_; refine ret_go ?_)
    | (refine fall_go ?_)
    | (simp only [athen_normal, athen_exit, athen_ret, ablock_self, ablock_ne, ablock_normal, ablock_ret, Nat.reduceBEq])
    | (clear hK K; refine hK _ _ ?_; clear hK K)
    | (clear hK K; clear hK K; refine hK _ _ ?_; clear hK K)
    | (clear hK K; clear hK K; clear hK K; refine hK _ _ ?_; clear hK K)
    | (clear hK K; clear hK K; clear hK K; clear hK K; refine hK _ _ ?_; clear hK K)
    | (clear hK K; clear hK K; clear hK K; clear hK K; clear hK K; refine hK _ _ ?_; clear hK K))
    rw [leafV, if_pos h4]
    simp
    exact .pure (by simp)
  · have h4' : ¬ (s.length : Int) < 4 := by omega
    have htl : (s.take 4).length = 4 := by simp; omega
    have hal := acc_leafN s
    rw [← acc_take s 4 4 (by omega)] at hal
    rw [leafV, if_neg h4, ← hal]
    repeat' (first
    | (refine arun_go0 rfl fun K9 h9 => ?_; simp (disch := (first | (simp; done) | omega | (simp; omega))) [h4']; (try simp (disch := (first | omega | (simp; omega))) only [wrap_i64, wrap_u8, wrap_u32, wrap_u64, Int.tmod_eq_emod_of_nonneg, Int.tdiv_eq_ediv_of_nonneg]); (repeat (refine And.intro (by first | omega | (simp; first | done | omega) | assumption | (intro e9; have e8 := congrArg List.length e9; first | (simp at e8; done) | ((try simp only [List.length_map, List.length_append] at e8); rw [List.length_nil] at e8; omega))) ?_)); (first | refine h9 _ _ (arun_slots (by first | (dsimp only [sput, sset]; done) | rfl) ?_)); clear h9 K9)
    | (refine arun_end ?_)
    | (refine awp_seq fun K hK => ?_)
    | (refine awp_region ?_)
    | (refine hK _ _ ?_; clear hK K)
    | (refine awp_block ?_)
    | (refine awp_cond rfl (fun hcnd => ?_) (fun hcnd => ?_) <;> (try simp at hcnd) <;> (try contradiction) <;> (try (exfalso; omega)))
    | (refine awp_skip ?_)
    | (refine awp_exit ?_; simp only [athen_normal, athen_exit, athen_ret, ablock_self, ablock_ne, ablock_normal, ablock_ret, Nat.reduceBEq])
    | (refine awp_ret ?_; refine ret_go ?_)
    | (refine fall_go ?_)
    | (simp only [athen_normal, athen_exit, athen_ret, ablock_self, ablock_ne, ablock_normal, ablock_ret, Nat.reduceBEq])
    | (clear hK K; refine hK _ _ ?_; clear hK K)
    | (clear hK K; clear hK K; refine hK _ _ ?_; clear hK K)
    | (clear hK K; clear hK K; clear hK K; refine hK _ _ ?_; clear hK K)
    | (clear hK K; clear hK K; clear hK K; clear hK K; refine hK _ _ ?_; clear hK K)
    | (clear hK K; clear hK K; clear hK K; clear hK K; clear hK K; refine hK _ _ ?_; clear hK K))
    refine awp_countU (fun k => [some V.junk, none, some V.junk, some V.junk, some (V.int .i64 (acc (s.take 4) k)), none, some V.junk, some V.junk, some V.junk, some V.junk, some V.junk, some V.junk, none, none, some (V.int .i64 k), some V.junk, some V.junk, some V.junk, some V.junk, some V.junk, some V.junk, some V.junk, some V.junk, some V.junk, some V.junk]) (fun k => [.live ((s.take 4).map byteV)]) 4 ?_ fun k hk KL hL => ?_
    · dsimp only [ups_some, ups_none, ups_nil, ups_nil']
      exact Le.mk [some 0] (by simp [acc]) (rowsRen_of (by simp) (by simp [rowsOver, pures_take])) (by simp)
    dsimp only [ups_some, ups_none, ups_nil, ups_nil']
    generalize s.take 4 = b at *
    have ha := acc_lt4 b k hk
    rcases Nat.lt_or_ge k 4 with hk | hk
    · have ho := acc_or b k hk (by omega)
      have h2 : (b[k]).toNat < 256 := UInt8.toNat_lt _
      repeat' (first
    | (refine arun_go0 rfl fun K9 h9 => ?_; simp (disch := (first | (simp; done) | omega | (simp; omega))) [ho, htl]; (try simp (disch := (first | omega | (simp; omega))) only [wrap_i64, wrap_u8, wrap_u32, wrap_u64, Int.tmod_eq_emod_of_nonneg, Int.tdiv_eq_ediv_of_nonneg]); (repeat (refine And.intro (by first | omega | (simp; first | done | omega) | assumption | (intro e9; have e8 := congrArg List.length e9; first | (simp at e8; done) | ((try simp only [List.length_map, List.length_append] at e8); rw [List.length_nil] at e8; omega))) ?_)); (first | refine h9 _ _ (arun_slots (by first | (dsimp only [sput, sset]; done) | rfl) ?_)); clear h9 K9)
    | (refine arun_end ?_)
    | (refine awp_seq fun K hK => ?_)
    | (refine awp_region ?_)
    | (refine hK _ _ ?_; clear hK K)
    | (refine awp_block ?_)
    | (refine awp_cond rfl (fun hcnd => ?_) (fun hcnd => ?_) <;> (try simp at hcnd) <;> (try contradiction) <;> (try (exfalso; omega)))
    | (refine awp_skip ?_)
    | (refine awp_exit ?_; simp only [athen_normal, athen_exit, athen_ret, ablock_self, ablock_ne, ablock_normal, ablock_ret, Nat.reduceBEq])
    | (refine awp_ret ?_; refine ret_go ?_)
    | (refine fall_go ?_)
    | (simp only [athen_normal, athen_exit, athen_ret, ablock_self, ablock_ne, ablock_normal, ablock_ret, Nat.reduceBEq])
    | (clear hK K; refine hK _ _ ?_; clear hK K)
    | (clear hK K; clear hK K; refine hK _ _ ?_; clear hK K)
    | (clear hK K; clear hK K; clear hK K; refine hK _ _ ?_; clear hK K)
    | (clear hK K; clear hK K; clear hK K; clear hK K; refine hK _ _ ?_; clear hK K)
    | (clear hK K; clear hK K; clear hK K; clear hK K; clear hK K; refine hK _ _ ?_; clear hK K))
      refine hL _ _ hk ?_
      exact Le.mk [some 0] (by dsimp only [ups_some, ups_none, ups_nil, ups_nil']; simp) (rowsRen_of (by simp) (by simp [rowsOver])) (by simp)
    obtain rfl : k = 4 := by omega
    repeat' (first
    | (refine arun_go0 rfl fun K9 h9 => ?_; simp (disch := (first | (simp; done) | omega | (simp; omega))) [htl]; (try simp (disch := (first | omega | (simp; omega))) only [wrap_i64, wrap_u8, wrap_u32, wrap_u64, Int.tmod_eq_emod_of_nonneg, Int.tdiv_eq_ediv_of_nonneg]); (repeat (refine And.intro (by first | omega | (simp; first | done | omega) | assumption | (intro e9; have e8 := congrArg List.length e9; first | (simp at e8; done) | ((try simp only [List.length_map, List.length_append] at e8); rw [List.length_nil] at e8; omega))) ?_)); (first | refine h9 _ _ (arun_slots (by first | (dsimp only [sput, sset]; done) | rfl) ?_)); clear h9 K9)
    | (refine arun_end ?_)
    | (refine awp_seq fun K hK => ?_)
    | (refine awp_region ?_)
    | (refine hK _ _ ?_; clear hK K)
    | (refine awp_block ?_)
    | (refine awp_cond rfl (fun hcnd => ?_) (fun hcnd => ?_) <;> (try simp at hcnd) <;> (try contradiction) <;> (try (exfalso; omega)))
    | (refine awp_skip ?_)
    | (refine awp_exit ?_; simp only [athen_normal, athen_exit, athen_ret, ablock_self, ablock_ne, ablock_normal, ablock_ret, Nat.reduceBEq])
    | (refine awp_ret ?_; refine ret_go ?_)
    | (refine fall_go ?_)
    | (simp only [athen_normal, athen_exit, athen_ret, ablock_self, ablock_ne, ablock_normal, ablock_ret, Nat.reduceBEq])
    | (clear hK K; refine hK _ _ ?_; clear hK K)
    | (clear hK K; clear hK K; refine hK _ _ ?_; clear hK K)
    | (clear hK K; clear hK K; clear hK K; refine hK _ _ ?_; clear hK K)
    | (clear hK K; clear hK K; clear hK K; clear hK K; refine hK _ _ ?_; clear hK K)
    | (clear hK K; clear hK K; clear hK K; clear hK K; clear hK K; refine hK _ _ ?_; clear hK K))
    simp
    exact .pure (by simp)
  · unfold leafV; split <;> simp

set_option maxRecDepth 100000 in
theorem rleaf_call (s : List UInt8) (hs : s.length ≤ 140737488355328) : PCall Try.prog 36 [.str s] (leafV s) := by
  refine pcall_body Try.func36 rfl Try.call36 ?_ ?_
  rotate_left 1
  refine awp_slots (s' := [(.str s : V), .junk, .junk, .junk, .junk, .junk, .junk, .junk, .junk, .junk, .junk, .junk, .junk, .junk, .junk, .junk, .junk, .junk, .junk, .junk, .junk, .junk, .junk, .junk, .junk]) rfl ?_
  by_cases h4 : s.length < 4
  · have h4' : (s.length : Int) < 4 := by omega
    repeat' (first
    | ((first | refine arun_go0 rfl fun K9 h9 => ?_ | refine arunD_goF rfl rfl fun K9 h9 => ?_ | refine arunD_goT rfl rfl fun K9 h9 => ?_); simp (disch := (first | (simp; done) | omega | (simp; omega))) [h4']; (try simp (disch := (first | omega | (simp; omega))) only [wrap_i64, wrap_u8, wrap_u32, wrap_u64, Int.tmod_eq_emod_of_nonneg, Int.tdiv_eq_ediv_of_nonneg]); (repeat (refine And.intro (by first | omega | (simp; first | done | omega) | assumption | (intro e9; have e8 := congrArg List.length e9; first | (simp at e8; done) | ((try simp only [List.length_map, List.length_append] at e8); rw [List.length_nil] at e8; omega))) ?_)); (first | refine h9 _ _ (arun_slots (by first | (dsimp only [sput, sset]; done) | rfl) ?_) | refine h9 _ _ (arunD_slots' (by first | (dsimp only [sput, sset]; done) | rfl) (by first | (dsimp only [List.tail]; done) | rfl) ?_)); clear h9 K9)
    | (refine arun_end ?_)
    | (refine arunD_end ?_)
    | (refine awp_seq fun K hK => ?_)
    | (refine awp_region ?_)
    | (refine hK _ _ ?_; clear hK K)
    | ((first | refine awp_region_draw' (m := 4) (by decide +kernel) [] (by kernel_rfl) (by decide +kernel) ?_); dsimp only [List.replicate, List.append_nil, List.cons_append, List.nil_append, List.length_cons, List.length_nil])
    | (refine awp_cond rfl (fun hcnd => ?_) (fun hcnd => ?_) <;> (try simp at hcnd) <;> (try contradiction) <;> (try (exfalso; omega)))
    | (refine awp_skip ?_)
    | (refine awp_ret ?_; refine ret_go ?_)
    | (refine fall_go ?_)
    | (simp only [athen_normal, athen_exit, athen_ret, ablock_self, ablock_ne, ablock_normal, ablock_ret, Nat.reduceBEq])
    | (clear hK K; refine hK _ _ ?_; clear hK K)
    | (clear hK K; clear hK K; refine hK _ _ ?_; clear hK K)
    | (clear hK K; clear hK K; clear hK K; refine hK _ _ ?_; clear hK K)
    | (clear hK K; clear hK K; clear hK K; clear hK K; refine hK _ _ ?_; clear hK K)
    | (clear hK K; clear hK K; clear hK K; clear hK K; clear hK K; refine hK _ _ ?_; clear hK K))
    rw [leafV, if_pos h4]
    simp
    exact .pure (by simp)
  · have h4' : ¬ (s.length : Int) < 4 := by omega
    obtain ⟨a, b, c, d, t, rfl⟩ : ∃ a b c d t, s = a :: b :: c :: d :: t := by
      match s, h4 with
      | a :: b :: c :: d :: t, _ => exact ⟨a, b, c, d, t, rfl⟩
      | [], h => simp at h
      | [_], h => simp at h
      | [_, _], h => simp at h
      | [_, _, _], h => simp at h
    have ha : a.toNat < 256 := UInt8.toNat_lt _
    have hb : b.toNat < 256 := UInt8.toNat_lt _
    have hc : c.toNat < 256 := UInt8.toNat_lt _
    have hd : d.toNat < 256 := UInt8.toNat_lt _
    obtain ⟨x1, e1⟩ : ∃ x : Nat, x = a.toNat * 16777216 + b.toNat * 65536 := ⟨_, rfl⟩
    obtain ⟨x2, e2⟩ : ∃ x : Nat, x = x1 + c.toNat * 256 := ⟨_, rfl⟩
    obtain ⟨x3, e3⟩ : ∃ x : Nat, x = x2 + d.toNat := ⟨_, rfl⟩
    have o1 : bits .or .i64 ((a.toNat : Int) * 16777216) ((b.toNat : Int) * 65536) = (x1 : Int) := by
      have := or_add (a := a.toNat * 16777216) (b := b.toNat * 65536) 24 (by omega) (by omega) (by omega)
      rw [e1, ← this]; rfl
    have o2 : bits .or .i64 (x1 : Int) ((c.toNat : Int) * 256) = (x2 : Int) := by
      have := or_add (a := x1) (b := c.toNat * 256) 16 (by omega) (by omega) (by omega)
      rw [e2, ← this]; rfl
    have o3 : bits .or .i64 (x2 : Int) (d.toNat : Int) = (x3 : Int) := by
      have := or_add (a := x2) (b := d.toNat) 8 (by omega) (by omega) (by omega)
      rw [e3, ← this]
    have hn : leafN (a :: b :: c :: d :: t) = x3 := by simp only [leafN, List.getD_cons_zero, List.getD_cons_succ]; omega
    rw [leafV, if_neg h4, hn]
    repeat' (first
    | ((first | refine arun_go0 rfl fun K9 h9 => ?_ | refine arunD_goF rfl rfl fun K9 h9 => ?_ | refine arunD_goT rfl rfl fun K9 h9 => ?_); simp (disch := (first | (simp; done) | omega | (simp; omega))) [h4', o1, o2, o3]; (try simp (disch := (first | omega | (simp; omega))) only [wrap_i64, wrap_u8, wrap_u32, wrap_u64, Int.tmod_eq_emod_of_nonneg, Int.tdiv_eq_ediv_of_nonneg]); (repeat (refine And.intro (by first | omega | (simp; first | done | omega) | assumption | (intro e9; have e8 := congrArg List.length e9; first | (simp at e8; done) | ((try simp only [List.length_map, List.length_append] at e8); rw [List.length_nil] at e8; omega))) ?_)); (first | refine h9 _ _ (arun_slots (by first | (dsimp only [sput, sset]; done) | rfl) ?_) | refine h9 _ _ (arunD_slots' (by first | (dsimp only [sput, sset]; done) | rfl) (by first | (dsimp only [List.tail]; done) | rfl) ?_)); clear h9 K9)
    | (refine arun_end ?_)
    | (refine arunD_end ?_)
    | (refine awp_seq fun K hK => ?_)
    | (refine awp_region ?_)
    | (refine hK _ _ ?_; clear hK K)
    | ((first | refine awp_region_draw' (m := 4) (by decide +kernel) [] (by kernel_rfl) (by decide +kernel) ?_); dsimp only [List.replicate, List.append_nil, List.cons_append, List.nil_append, List.length_cons, List.length_nil])
    | (refine awp_cond rfl (fun hcnd => ?_) (fun hcnd => ?_) <;> (try simp at hcnd) <;> (try contradiction) <;> (try (exfalso; omega)))
    | (refine awp_skip ?_)
    | (refine awp_ret ?_; refine ret_go ?_)
    | (refine fall_go ?_)
    | (simp only [athen_normal, athen_exit, athen_ret, ablock_self, ablock_ne, ablock_normal, ablock_ret, Nat.reduceBEq])
    | (clear hK K; refine hK _ _ ?_; clear hK K)
    | (clear hK K; clear hK K; refine hK _ _ ?_; clear hK K)
    | (clear hK K; clear hK K; clear hK K; refine hK _ _ ?_; clear hK K)
    | (clear hK K; clear hK K; clear hK K; clear hK K; refine hK _ _ ?_; clear hK K)
    | (clear hK K; clear hK K; clear hK K; clear hK K; clear hK K; refine hK _ _ ?_; clear hK K))
    simp
    exact .pure (by simp)
  · unfold leafV; split <;> simp
end Go.Proofs.Ythcdofbmmibgjaa
namespace Go.Proofs.Ythcdofbmmibgjaa
open Go.VS
set_option linter.all false
attribute [local irreducible] arun arunD AWp aend shaS shaT leafN verE

theorem verE_key {h : Int} {id root m s : List UInt8} (e : keyE h id root ≠ 0) : verE h id root m s = 18 := by rw [verE, if_pos e]
theorem keyE_18 {h : Int} {id root : List UInt8} (e : keyE h id root ≠ 0) : keyE h id root = 18 := by
  unfold keyE at *; split at * <;> simp_all
theorem verE_form {h : Int} {id root m s : List UInt8} (e : keyE h id root = 0) (f : s.length ≠ 564 + 16 * h.toNat ∨ ((2 ^ h.toNat : Nat) : Int) ≤ leafN s) : verE h id root m s = 17 := by rw [verE, if_neg (by omega), if_pos f]
theorem shr_nat (n k : Nat) : (n : Int) / 2 ^ k = ((n / 2 ^ k : Nat) : Int) := by simp

set_option maxRecDepth 100000 in
set_option maxHeartbeats 4000000 in
theorem verify_call (h : Int) (id root m s : List UInt8) (hi : id.length ≤ 140737488355328) (hr : root.length ≤ 140737488355328) (hm : m.length ≤ 1000) (hs : s.length ≤ 140737488355328) :
    PCall Try.prog 34 [.agg [.int .i64 h, .str id, .str root], .str m, .str s] (.int .i64 (verE h id root m s)) := by
  refine pcall_body Try.func34 rfl Try.call34 ?_ ?_
  rotate_left 1
  refine awp_slots (s' := ((.agg [.int .i64 h, .str id, .str root] : V) :: (.str m : V) :: (.str s : V) :: V.junk :: V.junk :: V.junk :: V.junk :: V.junk :: V.junk :: V.junk :: V.junk :: V.junk :: V.junk :: V.junk :: V.junk :: V.junk :: V.junk :: V.junk :: V.junk :: V.junk :: V.junk :: V.junk :: V.junk :: V.junk :: V.junk :: V.junk :: V.junk :: V.junk :: V.junk :: V.junk :: V.junk :: V.junk :: V.junk :: V.junk :: V.junk :: V.junk :: V.junk :: V.junk :: V.junk :: V.junk :: V.junk :: V.junk :: V.junk :: V.junk :: V.junk :: V.junk :: V.junk :: V.junk :: V.junk :: V.junk :: V.junk :: V.junk :: V.junk :: V.junk :: V.junk :: V.junk :: V.junk :: V.junk :: V.junk :: V.junk :: V.junk :: V.junk :: V.junk :: V.junk :: V.junk :: V.junk :: V.junk :: V.junk :: V.junk :: V.junk :: V.junk :: V.junk :: V.junk :: V.junk :: V.junk :: V.junk :: V.junk :: V.junk :: V.junk :: V.junk :: V.junk :: V.junk :: V.junk :: V.junk :: V.junk :: V.junk :: V.junk :: V.junk :: V.junk :: V.junk :: V.junk :: V.junk :: V.junk :: V.junk :: V.junk :: [])) rfl ?_
  have hck := check_call h id root hi hr
  by_cases hk : keyE h id root = 0
  · obtain ⟨k1, k2, k3, k4⟩ := keyE_zero hk
    rw [hk] at hck
    obtain ⟨n, rfl⟩ := Int.eq_ofNat_of_zero_le k1
    have hlf := leaf_call s hs
    have hn8 : n ≤ 8 := by omega
    have hsl := shl_one n hn8
    have h256 := pow_le_256 hn8
    by_cases hl : (s.length : Int) = 564 + n * 16
    · have hlv : leafV s = .tup [.int .i64 (leafN s), .bool true] := by rw [leafV, if_neg (by omega)]
      rw [hlv] at hlf
      obtain ⟨b1, b2⟩ := leafN_bounds s
      by_cases hb : leafN s < ((2 ^ n : Nat) : Int)
      · have hve : verE n id root m s = if climb id (s.drop 564) (leafN s).toNat (pubS id (leafN s) (recs id (leafN s) (digM id root (leafN s) m) ((s.drop 4).take 560) 35)) n = root then 0 else 17 := by
          rw [verE, if_neg (by omega), Int.toNat_natCast, if_neg (by omega)]
        obtain ⟨f, hf⟩ := Int.eq_ofNat_of_zero_le b1
        rw [hve]
        rw [hf] at hlf hb ⊢
        have hdg := mdigest_call n id root f m (by omega) (by omega) hm
        have hrc := recover_call id f (digM id root f m) ((s.drop 4).take 560) hi (by simp) (by simp; omega)
        have hrv : recV id f (digM id root f m) ((s.drop 4).take 560) = .tup [.str (pubS id f (recs id f (digM id root f m) ((s.drop 4).take 560) 35)), .int .i64 0] := by
          rw [recV, if_neg (by unfold leafE; rw [if_neg (by omega), if_neg (by omega)]; omega), if_neg (by simp), if_neg (by simp; omega)]
        rw [hrv] at hrc
        have hpl : (pubS id f (recs id f (digM id root f m) ((s.drop 4).take 560) 35)).length = 16 := by rw [pubS, shaT_length]
        rw [Int.toNat_natCast]
        have hrl : List.take (s.length - 564) (List.drop 564 s) = List.drop 564 s := List.take_of_length_le (by simp)
        have hdl : (List.drop 564 s).length = 16 * n := by simp; omega
        obtain ⟨v0, hv0⟩ : ∃ v0, pubS id f (recs id f (digM id root f m) ((s.drop 4).take 560) 35) = v0 := ⟨_, rfl⟩
        rw [hv0] at hrc hpl ⊢
        obtain ⟨p, hp⟩ : ∃ p, 2 ^ n = p := ⟨_, rfl⟩
        rw [hp] at hb hsl h256
        have hb' : f < p := by omega
        clear hrv hlv hve hv0
        repeat' (first
    | ((first | refine arun_go0 rfl fun K9 h9 => ?_ | refine arunD_goF rfl rfl fun K9 h9 => ?_ | refine arunD_goT rfl rfl fun K9 h9 => ?_); simp (disch := (first | (simp; done) | omega | (simp; omega))) [hl, hb', hsl, hrl]; (try simp (disch := (first | omega | (simp; omega))) only [wrap_i64, wrap_u8, wrap_u32, wrap_u64, Int.tmod_eq_emod_of_nonneg, Int.tdiv_eq_ediv_of_nonneg]); (first | refine acall_pure (hck) (by simp) ?_ | refine acall_pure (hlf) (by simp) ?_ | refine acall_pure (hdg) (by simp) ?_ | refine acall_pure (hrc) (by simp) ?_ | skip); (repeat (refine And.intro (by first | omega | (simp; first | done | omega) | assumption | (intro e9; have e8 := congrArg List.length e9; first | (simp at e8; done) | ((try simp only [List.length_map, List.length_append] at e8); rw [List.length_nil] at e8; omega))) ?_)); (first | refine h9 _ _ (arun_slots (by first | (dsimp only [sput, sset]; done) | rfl) ?_) | refine h9 _ _ (arunD_slots' (by first | (dsimp only [sput, sset]; done) | rfl) (by first | (dsimp only [List.tail]; done) | rfl) ?_)); clear h9 K9)
    | (refine arun_end ?_)
    | (refine arunD_end ?_)
    | (refine awp_seq fun K hK => ?_)
    | (refine awp_region ?_)
    | (refine hK _ _ ?_; clear hK K)
    | ((first | refine awp_region_draw' (m := 0) (by decide +kernel) [] (by kernel_rfl) (by decide +kernel) ?_); dsimp only [List.replicate, List.append_nil, List.cons_append, List.nil_append, List.length_cons, List.length_nil])
    | (refine awp_block ?_)
    | (refine awp_cond rfl (fun hcnd => ?_) (fun hcnd => ?_) <;> (try simp at hcnd) <;> (try contradiction) <;> (try (exfalso; omega)))
    | (refine awp_skip ?_)
    | (refine awp_exit ?_; simp only [athen_normal, athen_exit, athen_ret, ablock_self, ablock_ne, ablock_normal, ablock_ret, Nat.reduceBEq])
    | (refine awp_ret ?_; refine ret_go ?_)
    | (refine fall_go ?_)
    | (simp only [athen_normal, athen_exit, athen_ret, ablock_self, ablock_ne, ablock_normal, ablock_ret, Nat.reduceBEq])
    | (clear hK K; refine hK _ _ ?_; clear hK K)
    | (clear hK K; clear hK K; refine hK _ _ ?_; clear hK K)
    | (clear hK K; clear hK K; clear hK K; refine hK _ _ ?_; clear hK K)
    | (clear hK K; clear hK K; clear hK K; clear hK K; refine hK _ _ ?_; clear hK K)
    | (clear hK K; clear hK K; clear hK K; clear hK K; clear hK K; refine hK _ _ ?_; clear hK K))
        refine awp_countU (fun k => (some V.junk :: some V.junk :: some V.junk :: none :: none :: none :: some V.junk :: some V.junk :: some V.junk :: some V.junk :: some (V.str (climb id (s.drop 564) f v0 k)) :: some V.junk :: none :: some (V.int .i64 k) :: some (V.int .i64 ((f / 2 ^ k : Nat) : Int)) :: some V.junk :: some V.junk :: some V.junk :: some V.junk :: some V.junk :: some V.junk :: some V.junk :: some V.junk :: some V.junk :: some V.junk :: some V.junk :: some V.junk :: some V.junk :: some V.junk :: some V.junk :: some V.junk :: some V.junk :: some V.junk :: some V.junk :: some V.junk :: some V.junk :: some V.junk :: some V.junk :: some V.junk :: some V.junk :: some V.junk :: some V.junk :: some V.junk :: some V.junk :: some V.junk :: some V.junk :: some V.junk :: some V.junk :: some V.junk :: some V.junk :: some V.junk :: some V.junk :: some V.junk :: some V.junk :: some V.junk :: some V.junk :: some V.junk :: some V.junk :: some V.junk :: some V.junk :: some V.junk :: some V.junk :: some V.junk :: some V.junk :: some V.junk :: some V.junk :: some V.junk :: some V.junk :: some V.junk :: some V.junk :: some V.junk :: some V.junk :: some V.junk :: some V.junk :: some V.junk :: some V.junk :: some V.junk :: some V.junk :: some V.junk :: some V.junk :: some V.junk :: some V.junk :: some V.junk :: some V.junk :: some V.junk :: some V.junk :: some V.junk :: some V.junk :: some V.junk :: some V.junk :: some V.junk :: some V.junk :: some V.junk :: some V.junk :: some V.junk :: [])) (fun k => [.live [.int .i64 n, .str id, .str root]]) n ?_ fun k hk KL hL => ?_
        · dsimp only [ups_some, ups_none, ups_nil, ups_nil']
          exact Le.mk [some 0] (by simp [climb]) (rowsRen_of (by simp) (by simp [rowsOver])) (by simp)
        dsimp only [ups_some, ups_none, ups_nil, ups_nil']
        have hcl := climb_length id (s.drop 564) f v0 hpl k
        rcases Nat.lt_or_ge k n with hk | hk
        · have hq : f / 2 ^ k < 256 := Nat.lt_of_le_of_lt (Nat.div_le_self _ _) (by omega)
          have hdd : f / 2 ^ (k + 1) = f / 2 ^ k / 2 := by rw [Nat.pow_succ, Nat.div_div_eq_div_mul]
          have hcs : climb id (s.drop 564) f v0 (k + 1) = if f / 2 ^ k % 2 = 0 then parS id (k : Int) ((f / 2 ^ k / 2 : Nat) : Int) (climb id (s.drop 564) f v0 k) (sib (s.drop 564) k) else parS id (k : Int) ((f / 2 ^ k / 2 : Nat) : Int) (sib (s.drop 564) k) (climb id (s.drop 564) f v0 k) := rfl
          have hsb : (List.drop (16 * k) (List.drop 564 s)).take 16 = sib (s.drop 564) k := rfl
          have hsl2 : (sib (s.drop 564) k).length = 16 := by simp [sib]; omega
          rw [hcs, hdd] at hL
          clear hcs
          generalize f / 2 ^ k = q at *
          generalize List.drop 564 s = rest at *
          generalize climb id rest f v0 k = c at *
          generalize sib rest k = sb at *
          have t1 : ((k : Int) * 16).toNat = 16 * k := by omega
          have t2 : (((k : Int) + 1) * 16).toNat - 16 * k = 16 := by omega
          by_cases hpar : q % 2 = 0
          · rw [if_pos hpar] at hL
            have hpar' : (q : Int) % 2 = 0 := by omega
            have hpc := parent_call id k ((q / 2 : Nat) : Int) c sb (by omega) (by omega) (by omega)
            repeat' (first
    | ((first | refine arun_go0 rfl fun K9 h9 => ?_ | refine arunD_goF rfl rfl fun K9 h9 => ?_ | refine arunD_goT rfl rfl fun K9 h9 => ?_); simp (disch := (first | (simp; done) | omega | (simp; omega))) [hpar', t1, t2, hsb]; (try simp (disch := (first | omega | (simp; omega))) only [wrap_i64, wrap_u8, wrap_u32, wrap_u64, Int.tmod_eq_emod_of_nonneg, Int.tdiv_eq_ediv_of_nonneg]); (first | refine acall_pure (hpc) (by simp) ?_ | skip); (repeat (refine And.intro (by first | omega | (simp; first | done | omega) | assumption | (intro e9; have e8 := congrArg List.length e9; first | (simp at e8; done) | ((try simp only [List.length_map, List.length_append] at e8); rw [List.length_nil] at e8; omega))) ?_)); (first | refine h9 _ _ (arun_slots (by first | (dsimp only [sput, sset]; done) | rfl) ?_) | refine h9 _ _ (arunD_slots' (by first | (dsimp only [sput, sset]; done) | rfl) (by first | (dsimp only [List.tail]; done) | rfl) ?_)); clear h9 K9)
    | (refine arun_end ?_)
    | (refine arunD_end ?_)
    | (refine awp_seq fun K hK => ?_)
    | (refine awp_region ?_)
    | (refine hK _ _ ?_; clear hK K)
    | ((first | refine awp_region_draw' (m := 0) (by decide +kernel) [] (by kernel_rfl) (by decide +kernel) ?_); dsimp only [List.replicate, List.append_nil, List.cons_append, List.nil_append, List.length_cons, List.length_nil])
    | (refine awp_block ?_)
    | (refine awp_cond rfl (fun hcnd => ?_) (fun hcnd => ?_) <;> (try simp at hcnd) <;> (try contradiction) <;> (try (exfalso; omega)))
    | (refine awp_skip ?_)
    | (refine awp_exit ?_; simp only [athen_normal, athen_exit, athen_ret, ablock_self, ablock_ne, ablock_normal, ablock_ret, Nat.reduceBEq])
    | (refine awp_ret ?_; refine ret_go ?_)
    | (refine fall_go ?_)
    | (simp only [athen_normal, athen_exit, athen_ret, ablock_self, ablock_ne, ablock_normal, ablock_ret, Nat.reduceBEq])
    | (clear hK K; refine hK _ _ ?_; clear hK K)
    | (clear hK K; clear hK K; refine hK _ _ ?_; clear hK K)
    | (clear hK K; clear hK K; clear hK K; refine hK _ _ ?_; clear hK K)
    | (clear hK K; clear hK K; clear hK K; clear hK K; refine hK _ _ ?_; clear hK K)
    | (clear hK K; clear hK K; clear hK K; clear hK K; clear hK K; refine hK _ _ ?_; clear hK K))
            refine hL _ _ hk ?_
            exact Le.mk [some 0] (by dsimp only [ups_some, ups_none, ups_nil, ups_nil']; simp) (rowsRen_of (by simp) (by simp [rowsOver])) (by simp)
          · rw [if_neg hpar] at hL
            have hpar' : (q : Int) % 2 = 1 := by omega
            have hpc := parent_call id k ((q / 2 : Nat) : Int) sb c (by omega) (by omega) (by omega)
            repeat' (first
    | ((first | refine arun_go0 rfl fun K9 h9 => ?_ | refine arunD_goF rfl rfl fun K9 h9 => ?_ | refine arunD_goT rfl rfl fun K9 h9 => ?_); simp (disch := (first | (simp; done) | omega | (simp; omega))) [hpar', t1, t2, hsb]; (try simp (disch := (first | omega | (simp; omega))) only [wrap_i64, wrap_u8, wrap_u32, wrap_u64, Int.tmod_eq_emod_of_nonneg, Int.tdiv_eq_ediv_of_nonneg]); (first | refine acall_pure (hpc) (by simp) ?_ | skip); (repeat (refine And.intro (by first | omega | (simp; first | done | omega) | assumption | (intro e9; have e8 := congrArg List.length e9; first | (simp at e8; done) | ((try simp only [List.length_map, List.length_append] at e8); rw [List.length_nil] at e8; omega))) ?_)); (first | refine h9 _ _ (arun_slots (by first | (dsimp only [sput, sset]; done) | rfl) ?_) | refine h9 _ _ (arunD_slots' (by first | (dsimp only [sput, sset]; done) | rfl) (by first | (dsimp only [List.tail]; done) | rfl) ?_)); clear h9 K9)
    | (refine arun_end ?_)
    | (refine arunD_end ?_)
    | (refine awp_seq fun K hK => ?_)
    | (refine awp_region ?_)
    | (refine hK _ _ ?_; clear hK K)
    | ((first | refine awp_region_draw' (m := 0) (by decide +kernel) [] (by kernel_rfl) (by decide +kernel) ?_); dsimp only [List.replicate, List.append_nil, List.cons_append, List.nil_append, List.length_cons, List.length_nil])
    | (refine awp_block ?_)
    | (refine awp_cond rfl (fun hcnd => ?_) (fun hcnd => ?_) <;> (try simp at hcnd) <;> (try contradiction) <;> (try (exfalso; omega)))
    | (refine awp_skip ?_)
    | (refine awp_exit ?_; simp only [athen_normal, athen_exit, athen_ret, ablock_self, ablock_ne, ablock_normal, ablock_ret, Nat.reduceBEq])
    | (refine awp_ret ?_; refine ret_go ?_)
    | (refine fall_go ?_)
    | (simp only [athen_normal, athen_exit, athen_ret, ablock_self, ablock_ne, ablock_normal, ablock_ret, Nat.reduceBEq])
    | (clear hK K; refine hK _ _ ?_; clear hK K)
    | (clear hK K; clear hK K; refine hK _ _ ?_; clear hK K)
    | (clear hK K; clear hK K; clear hK K; refine hK _ _ ?_; clear hK K)
    | (clear hK K; clear hK K; clear hK K; clear hK K; refine hK _ _ ?_; clear hK K)
    | (clear hK K; clear hK K; clear hK K; clear hK K; clear hK K; refine hK _ _ ?_; clear hK K))
            refine hL _ _ hk ?_
            exact Le.mk [some 0] (by dsimp only [ups_some, ups_none, ups_nil, ups_nil']; simp) (rowsRen_of (by simp) (by simp [rowsOver])) (by simp)
        obtain rfl : k = n := by omega
        by_cases hroot : climb id (s.drop 564) f v0 k = root
        · repeat' (first
    | ((first | refine arun_go0 rfl fun K9 h9 => ?_ | refine arunD_goF rfl rfl fun K9 h9 => ?_ | refine arunD_goT rfl rfl fun K9 h9 => ?_); simp (disch := (first | (simp; done) | omega | (simp; omega))) [hroot]; (try simp (disch := (first | omega | (simp; omega))) only [wrap_i64, wrap_u8, wrap_u32, wrap_u64, Int.tmod_eq_emod_of_nonneg, Int.tdiv_eq_ediv_of_nonneg]); (repeat (refine And.intro (by first | omega | (simp; first | done | omega) | assumption | (intro e9; have e8 := congrArg List.length e9; first | (simp at e8; done) | ((try simp only [List.length_map, List.length_append] at e8); rw [List.length_nil] at e8; omega))) ?_)); (first | refine h9 _ _ (arun_slots (by first | (dsimp only [sput, sset]; done) | rfl) ?_) | refine h9 _ _ (arunD_slots' (by first | (dsimp only [sput, sset]; done) | rfl) (by first | (dsimp only [List.tail]; done) | rfl) ?_)); clear h9 K9)
    | (refine arun_end ?_)
    | (refine arunD_end ?_)
    | (refine awp_seq fun K hK => ?_)
    | (refine awp_region ?_)
    | (refine hK _ _ ?_; clear hK K)
    | ((first | refine awp_region_draw' (m := 0) (by decide +kernel) [] (by kernel_rfl) (by decide +kernel) ?_); dsimp only [List.replicate, List.append_nil, List.cons_append, List.nil_append, List.length_cons, List.length_nil])
    | (refine awp_block ?_)
    | (refine awp_cond rfl (fun hcnd => ?_) (fun hcnd => ?_) <;> (try simp at hcnd) <;> (try contradiction) <;> (try (exfalso; omega)))
    | (refine awp_skip ?_)
    | (refine awp_exit ?_; simp only [athen_normal, athen_exit, athen_ret, ablock_self, ablock_ne, ablock_normal, ablock_ret, Nat.reduceBEq])
    | (refine awp_ret ?_; refine ret_go ?_)
    | (refine fall_go ?_)
    | (simp only [athen_normal, athen_exit, athen_ret, ablock_self, ablock_ne, ablock_normal, ablock_ret, Nat.reduceBEq])
    | (clear hK K; refine hK _ _ ?_; clear hK K)
    | (clear hK K; clear hK K; refine hK _ _ ?_; clear hK K)
    | (clear hK K; clear hK K; clear hK K; refine hK _ _ ?_; clear hK K)
    | (clear hK K; clear hK K; clear hK K; clear hK K; refine hK _ _ ?_; clear hK K)
    | (clear hK K; clear hK K; clear hK K; clear hK K; clear hK K; refine hK _ _ ?_; clear hK K))
          simp [hroot]
          exact .pure .int
        · repeat' (first
    | ((first | refine arun_go0 rfl fun K9 h9 => ?_ | refine arunD_goF rfl rfl fun K9 h9 => ?_ | refine arunD_goT rfl rfl fun K9 h9 => ?_); simp (disch := (first | (simp; done) | omega | (simp; omega))) [hroot]; (try simp (disch := (first | omega | (simp; omega))) only [wrap_i64, wrap_u8, wrap_u32, wrap_u64, Int.tmod_eq_emod_of_nonneg, Int.tdiv_eq_ediv_of_nonneg]); (repeat (refine And.intro (by first | omega | (simp; first | done | omega) | assumption | (intro e9; have e8 := congrArg List.length e9; first | (simp at e8; done) | ((try simp only [List.length_map, List.length_append] at e8); rw [List.length_nil] at e8; omega))) ?_)); (first | refine h9 _ _ (arun_slots (by first | (dsimp only [sput, sset]; done) | rfl) ?_) | refine h9 _ _ (arunD_slots' (by first | (dsimp only [sput, sset]; done) | rfl) (by first | (dsimp only [List.tail]; done) | rfl) ?_)); clear h9 K9)
    | (refine arun_end ?_)
    | (refine arunD_end ?_)
    | (refine awp_seq fun K hK => ?_)
    | (refine awp_region ?_)
    | (refine hK _ _ ?_; clear hK K)
    | ((first | refine awp_region_draw' (m := 0) (by decide +kernel) [] (by kernel_rfl) (by decide +kernel) ?_); dsimp only [List.replicate, List.append_nil, List.cons_append, List.nil_append, List.length_cons, List.length_nil])
    | (refine awp_block ?_)
    | (refine awp_cond rfl (fun hcnd => ?_) (fun hcnd => ?_) <;> (try simp at hcnd) <;> (try contradiction) <;> (try (exfalso; omega)))
    | (refine awp_skip ?_)
    | (refine awp_exit ?_; simp only [athen_normal, athen_exit, athen_ret, ablock_self, ablock_ne, ablock_normal, ablock_ret, Nat.reduceBEq])
    | (refine awp_ret ?_; refine ret_go ?_)
    | (refine fall_go ?_)
    | (simp only [athen_normal, athen_exit, athen_ret, ablock_self, ablock_ne, ablock_normal, ablock_ret, Nat.reduceBEq])
    | (clear hK K; refine hK _ _ ?_; clear hK K)
    | (clear hK K; clear hK K; refine hK _ _ ?_; clear hK K)
    | (clear hK K; clear hK K; clear hK K; refine hK _ _ ?_; clear hK K)
    | (clear hK K; clear hK K; clear hK K; clear hK K; refine hK _ _ ?_; clear hK K)
    | (clear hK K; clear hK K; clear hK K; clear hK K; clear hK K; refine hK _ _ ?_; clear hK K))
          simp [hroot]
          exact .pure .int
      · rw [verE_form hk (by right; rw [Int.toNat_natCast]; omega)]
        obtain ⟨f, hf⟩ := Int.eq_ofNat_of_zero_le b1
        rw [hf] at hlf hb
        obtain ⟨p, hp⟩ : ∃ p, 2 ^ n = p := ⟨_, rfl⟩
        rw [hp] at hb hsl h256
        have hb' : ¬ f < p := by omega
        clear hlv
        repeat' (first
    | ((first | refine arun_go0 rfl fun K9 h9 => ?_ | refine arunD_goF rfl rfl fun K9 h9 => ?_ | refine arunD_goT rfl rfl fun K9 h9 => ?_); simp (disch := (first | (simp; done) | omega | (simp; omega))) [hl, hb', hsl]; (try simp (disch := (first | omega | (simp; omega))) only [wrap_i64, wrap_u8, wrap_u32, wrap_u64, Int.tmod_eq_emod_of_nonneg, Int.tdiv_eq_ediv_of_nonneg]); (first | refine acall_pure (hck) (by simp) ?_ | refine acall_pure (hlf) (by simp) ?_ | skip); (repeat (refine And.intro (by first | omega | (simp; first | done | omega) | assumption | (intro e9; have e8 := congrArg List.length e9; first | (simp at e8; done) | ((try simp only [List.length_map, List.length_append] at e8); rw [List.length_nil] at e8; omega))) ?_)); (first | refine h9 _ _ (arun_slots (by first | (dsimp only [sput, sset]; done) | rfl) ?_) | refine h9 _ _ (arunD_slots' (by first | (dsimp only [sput, sset]; done) | rfl) (by first | (dsimp only [List.tail]; done) | rfl) ?_)); clear h9 K9)
    | (refine arun_end ?_)
    | (refine arunD_end ?_)
    | (refine awp_seq fun K hK => ?_)
    | (refine awp_region ?_)
    | (refine hK _ _ ?_; clear hK K)
    | ((first | refine awp_region_draw' (m := 0) (by decide +kernel) [] (by kernel_rfl) (by decide +kernel) ?_); dsimp only [List.replicate, List.append_nil, List.cons_append, List.nil_append, List.length_cons, List.length_nil])
    | (refine awp_block ?_)
    | (refine awp_cond rfl (fun hcnd => ?_) (fun hcnd => ?_) <;> (try simp at hcnd) <;> (try contradiction) <;> (try (exfalso; omega)))
    | (refine awp_skip ?_)
    | (refine awp_exit ?_; simp only [athen_normal, athen_exit, athen_ret, ablock_self, ablock_ne, ablock_normal, ablock_ret, Nat.reduceBEq])
    | (refine awp_ret ?_; refine ret_go ?_)
    | (refine fall_go ?_)
    | (simp only [athen_normal, athen_exit, athen_ret, ablock_self, ablock_ne, ablock_normal, ablock_ret, Nat.reduceBEq])
    | (clear hK K; refine hK _ _ ?_; clear hK K)
    | (clear hK K; clear hK K; refine hK _ _ ?_; clear hK K)
    | (clear hK K; clear hK K; clear hK K; refine hK _ _ ?_; clear hK K)
    | (clear hK K; clear hK K; clear hK K; clear hK K; refine hK _ _ ?_; clear hK K)
    | (clear hK K; clear hK K; clear hK K; clear hK K; clear hK K; refine hK _ _ ?_; clear hK K))
        simp
        exact .pure .int
    · rw [verE_form hk (by left; omega)]
      repeat' (first
    | ((first | refine arun_go0 rfl fun K9 h9 => ?_ | refine arunD_goF rfl rfl fun K9 h9 => ?_ | refine arunD_goT rfl rfl fun K9 h9 => ?_); simp (disch := (first | (simp; done) | omega | (simp; omega))) [hl]; (try simp (disch := (first | omega | (simp; omega))) only [wrap_i64, wrap_u8, wrap_u32, wrap_u64, Int.tmod_eq_emod_of_nonneg, Int.tdiv_eq_ediv_of_nonneg]); (first | refine acall_pure (hck) (by simp) ?_ | skip); (repeat (refine And.intro (by first | omega | (simp; first | done | omega) | assumption | (intro e9; have e8 := congrArg List.length e9; first | (simp at e8; done) | ((try simp only [List.length_map, List.length_append] at e8); rw [List.length_nil] at e8; omega))) ?_)); (first | refine h9 _ _ (arun_slots (by first | (dsimp only [sput, sset]; done) | rfl) ?_) | refine h9 _ _ (arunD_slots' (by first | (dsimp only [sput, sset]; done) | rfl) (by first | (dsimp only [List.tail]; done) | rfl) ?_)); clear h9 K9)
    | (refine arun_end ?_)
    | (refine arunD_end ?_)
    | (refine awp_seq fun K hK => ?_)
    | (refine awp_region ?_)
    | (refine hK _ _ ?_; clear hK K)
    | ((first | refine awp_region_draw' (m := 0) (by decide +kernel) [] (by kernel_rfl) (by decide +kernel) ?_); dsimp only [List.replicate, List.append_nil, List.cons_append, List.nil_append, List.length_cons, List.length_nil])
    | (refine awp_block ?_)
    | (refine awp_cond rfl (fun hcnd => ?_) (fun hcnd => ?_) <;> (try simp at hcnd) <;> (try contradiction) <;> (try (exfalso; omega)))
    | (refine awp_skip ?_)
    | (refine awp_exit ?_; simp only [athen_normal, athen_exit, athen_ret, ablock_self, ablock_ne, ablock_normal, ablock_ret, Nat.reduceBEq])
    | (refine awp_ret ?_; refine ret_go ?_)
    | (refine fall_go ?_)
    | (simp only [athen_normal, athen_exit, athen_ret, ablock_self, ablock_ne, ablock_normal, ablock_ret, Nat.reduceBEq])
    | (clear hK K; refine hK _ _ ?_; clear hK K)
    | (clear hK K; clear hK K; refine hK _ _ ?_; clear hK K)
    | (clear hK K; clear hK K; clear hK K; refine hK _ _ ?_; clear hK K)
    | (clear hK K; clear hK K; clear hK K; clear hK K; refine hK _ _ ?_; clear hK K)
    | (clear hK K; clear hK K; clear hK K; clear hK K; clear hK K; refine hK _ _ ?_; clear hK K))
      simp
      exact .pure .int
  · rw [verE_key hk]
    rw [keyE_18 hk] at hck
    repeat' (first
    | ((first | refine arun_go0 rfl fun K9 h9 => ?_ | refine arunD_goF rfl rfl fun K9 h9 => ?_ | refine arunD_goT rfl rfl fun K9 h9 => ?_); simp (disch := (first | (simp; done) | omega | (simp; omega))) ; (try simp (disch := (first | omega | (simp; omega))) only [wrap_i64, wrap_u8, wrap_u32, wrap_u64, Int.tmod_eq_emod_of_nonneg, Int.tdiv_eq_ediv_of_nonneg]); (first | refine acall_pure (hck) (by simp) ?_ | skip); (repeat (refine And.intro (by first | omega | (simp; first | done | omega) | assumption | (intro e9; have e8 := congrArg List.length e9; first | (simp at e8; done) | ((try simp only [List.length_map, List.length_append] at e8); rw [List.length_nil] at e8; omega))) ?_)); (first | refine h9 _ _ (arun_slots (by first | (dsimp only [sput, sset]; done) | rfl) ?_) | refine h9 _ _ (arunD_slots' (by first | (dsimp only [sput, sset]; done) | rfl) (by first | (dsimp only [List.tail]; done) | rfl) ?_)); clear h9 K9)
    | (refine arun_end ?_)
    | (refine arunD_end ?_)
    | (refine awp_seq fun K hK => ?_)
    | (refine awp_region ?_)
    | (refine hK _ _ ?_; clear hK K)
    | ((first | refine awp_region_draw' (m := 0) (by decide +kernel) [] (by kernel_rfl) (by decide +kernel) ?_); dsimp only [List.replicate, List.append_nil, List.cons_append, List.nil_append, List.length_cons, List.length_nil])
    | (refine awp_block ?_)
    | (refine awp_cond rfl (fun hcnd => ?_) (fun hcnd => ?_) <;> (try simp at hcnd) <;> (try contradiction) <;> (try (exfalso; omega)))
    | (refine awp_skip ?_)
    | (refine awp_exit ?_; simp only [athen_normal, athen_exit, athen_ret, ablock_self, ablock_ne, ablock_normal, ablock_ret, Nat.reduceBEq])
    | (refine awp_ret ?_; refine ret_go ?_)
    | (refine fall_go ?_)
    | (simp only [athen_normal, athen_exit, athen_ret, ablock_self, ablock_ne, ablock_normal, ablock_ret, Nat.reduceBEq])
    | (clear hK K; refine hK _ _ ?_; clear hK K)
    | (clear hK K; clear hK K; refine hK _ _ ?_; clear hK K)
    | (clear hK K; clear hK K; clear hK K; refine hK _ _ ?_; clear hK K)
    | (clear hK K; clear hK K; clear hK K; clear hK K; refine hK _ _ ?_; clear hK K)
    | (clear hK K; clear hK K; clear hK K; clear hK K; clear hK K; refine hK _ _ ?_; clear hK K))
    simp
    exact .pure .int
  · exact .int
end Go.Proofs.Ythcdofbmmibgjaa
namespace Go.Proofs.Ythcdofbmmibgjaa
open Go.VS
set_option linter.all false
attribute [local irreducible] arun arunD AWp aend shaS shaT leafN verE

set_option maxRecDepth 100000 in
set_option maxHeartbeats 4000000 in
theorem rverify_call (h : Int) (id root m s : List UInt8) (hi : id.length ≤ 140737488355328) (hr : root.length ≤ 140737488355328) (hm : m.length ≤ 1000) (hs : s.length ≤ 140737488355328) :
    PCall Try.prog 35 [.agg [.int .i64 h, .str id, .str root], .str m, .str s] (.int .i64 (verE h id root m s)) := by
  refine pcall_body Try.func35 rfl Try.call35 ?_ ?_
  rotate_left 1
  refine awp_slots (s' := ((.agg [.int .i64 h, .str id, .str root] : V) :: (.str m : V) :: (.str s : V) :: V.junk :: V.junk :: V.junk :: V.junk :: V.junk :: V.junk :: V.junk :: V.junk :: V.junk :: V.junk :: V.junk :: V.junk :: V.junk :: V.junk :: V.junk :: V.junk :: V.junk :: V.junk :: V.junk :: V.junk :: V.junk :: V.junk :: V.junk :: V.junk :: V.junk :: V.junk :: V.junk :: V.junk :: V.junk :: V.junk :: V.junk :: V.junk :: V.junk :: V.junk :: V.junk :: V.junk :: V.junk :: V.junk :: V.junk :: V.junk :: V.junk :: V.junk :: V.junk :: V.junk :: V.junk :: V.junk :: V.junk :: V.junk :: V.junk :: V.junk :: V.junk :: V.junk :: V.junk :: V.junk :: V.junk :: V.junk :: V.junk :: V.junk :: V.junk :: V.junk :: V.junk :: V.junk :: V.junk :: V.junk :: V.junk :: V.junk :: V.junk :: V.junk :: V.junk :: V.junk :: V.junk :: V.junk :: V.junk :: V.junk :: V.junk :: V.junk :: V.junk :: V.junk :: V.junk :: V.junk :: V.junk :: V.junk :: V.junk :: V.junk :: V.junk :: V.junk :: V.junk :: V.junk :: V.junk :: V.junk :: V.junk :: V.junk :: V.junk :: V.junk :: V.junk :: V.junk :: V.junk :: V.junk :: V.junk :: V.junk :: V.junk :: V.junk :: V.junk :: V.junk :: V.junk :: V.junk :: [])) rfl ?_
  have hck := rcheckKey_call h id root hi hr
  by_cases hk : keyE h id root = 0
  · obtain ⟨k1, k2, k3, k4⟩ := keyE_zero hk
    rw [hk] at hck
    obtain ⟨n, rfl⟩ := Int.eq_ofNat_of_zero_le k1
    have hlf := rleaf_call s hs
    have hn8 : n ≤ 8 := by omega
    have hsl := shl_one n hn8
    have h256 := pow_le_256 hn8
    by_cases hl : (s.length : Int) = 564 + n * 16
    · have hlv : leafV s = .tup [.int .i64 (leafN s), .bool true] := by rw [leafV, if_neg (by omega)]
      rw [hlv] at hlf
      obtain ⟨b1, b2⟩ := leafN_bounds s
      by_cases hb : leafN s < ((2 ^ n : Nat) : Int)
      · have hve : verE n id root m s = if climb id (s.drop 564) (leafN s).toNat (pubS id (leafN s) (recs id (leafN s) (digM id root (leafN s) m) ((s.drop 4).take 560) 35)) n = root then 0 else 17 := by
          rw [verE, if_neg (by omega), Int.toNat_natCast, if_neg (by omega)]
        obtain ⟨f, hf⟩ := Int.eq_ofNat_of_zero_le b1
        rw [hve]
        rw [hf] at hlf hb ⊢
        have hrc := rrecover_call id f (digM id root f m) ((s.drop 4).take 560) hi (by simp) (by simp; omega)
        have hrv : recV id f (digM id root f m) ((s.drop 4).take 560) = .tup [.str (pubS id f (recs id f (digM id root f m) ((s.drop 4).take 560) 35)), .int .i64 0] := by
          rw [recV, if_neg (by unfold leafE; rw [if_neg (by omega), if_neg (by omega)]; omega), if_neg (by simp), if_neg (by simp; omega)]
        rw [hrv] at hrc
        have hpl : (pubS id f (recs id f (digM id root f m) ((s.drop 4).take 560) 35)).length = 16 := by rw [pubS, shaT_length]
        rw [Int.toNat_natCast]
        have hrl : List.take (s.length - 564) (List.drop 564 s) = List.drop 564 s := List.take_of_length_le (by simp)
        have hdl : (List.drop 564 s).length = 16 * n := by simp; omega
        obtain ⟨v0, hv0⟩ : ∃ v0, pubS id f (recs id f (digM id root f m) ((s.drop 4).take 560) 35) = v0 := ⟨_, rfl⟩
        rw [hv0] at hrc hpl ⊢
        obtain ⟨p, hp⟩ : ∃ p, 2 ^ n = p := ⟨_, rfl⟩
        rw [hp] at hb hsl h256
        have hb' : f < p := by omega
        clear hrv hlv hve hv0
        have hsh := rshort_call [[77], id, root, wbytes f, m] (by simp) (by simp; omega)
        rw [show shaT [[77], id, root, wbytes f, m].flatten = digM id root f m by simp [digM]] at hsh
        repeat' (first
    | ((first | refine arun_go0 rfl fun K9 h9 => ?_ | refine arunD_goF rfl rfl fun K9 h9 => ?_ | refine arunD_goT rfl rfl fun K9 h9 => ?_ | (refine arun_go ?_ ?_; (focus (simp [hl, hb', hsl]; done)); intro K9 h9) | ((first | refine arunD_gF rfl ?_ ?_ | refine arunD_gT rfl ?_ ?_); (focus (simp [hl, hb', hsl]; done)); intro K9 h9)); simp (disch := (first | (simp; done) | omega | (simp; omega))) [hl, hb', hsl]; (try simp (disch := (first | omega | (simp; omega))) only [wrap_i64, wrap_u8, wrap_u32, wrap_u64, Int.tmod_eq_emod_of_nonneg, Int.tdiv_eq_ediv_of_nonneg]); (first | refine acall_pure (hck) (by simp) ?_ | refine acall_pure (hlf) (by simp) ?_ | refine acall_pure (rb4_call _) (by simp) ?_ | refine acall_view hsh ⟨view_row rfl (by simp) (by simp), trivial⟩ .str ?_ | refine acall_pure (hrc) (by simp) ?_ | skip); (repeat (refine And.intro (by first | omega | (simp; first | done | omega) | assumption | (intro e9; have e8 := congrArg List.length e9; first | (simp at e8; done) | ((try simp only [List.length_map, List.length_append] at e8); rw [List.length_nil] at e8; omega))) ?_)); (first | refine h9 _ _ (arun_slots (by first | (dsimp only [sput, sset]; done) | rfl) ?_) | refine h9 _ _ (arunD_slots' (by first | (dsimp only [sput, sset]; done) | rfl) (by first | (dsimp only [List.tail]; done) | rfl) ?_)); clear h9 K9)
    | (refine arun_end ?_)
    | (refine arunD_end ?_)
    | (refine awp_seq fun K hK => ?_)
    | (refine awp_region ?_)
    | (refine hK _ _ ?_; clear hK K)
    | ((first | refine awp_region_draw' (m := 1) (by decide +kernel) [] (by kernel_rfl) (by decide +kernel) ?_); dsimp only [List.replicate, List.append_nil, List.cons_append, List.nil_append, List.length_cons, List.length_nil])
    | (refine awp_block ?_)
    | (refine awp_cond rfl (fun hcnd => ?_) (fun hcnd => ?_) <;> (try simp at hcnd) <;> (try contradiction) <;> (try (exfalso; omega)))
    | (refine awp_skip ?_)
    | (refine awp_exit ?_; simp only [athen_normal, athen_exit, athen_ret, ablock_self, ablock_ne, ablock_normal, ablock_ret, Nat.reduceBEq])
    | (refine awp_ret ?_; refine ret_go ?_)
    | (refine arun_no ?_ ?_; (focus (simp [hl, hb', hsl]; done)); refine arun_slots (by first | (dsimp only [sput, sset]; done) | rfl) ?_)
    | ((first | refine arunD_nF rfl ?_ ?_ | refine arunD_nT rfl ?_ ?_); (focus (simp [hl, hb', hsl]; done)); refine arunD_slots' (by first | (dsimp only [sput, sset]; done) | rfl) (by first | (dsimp only [List.tail]; done) | rfl) ?_)
    | (refine fall_go ?_)
    | (simp only [athen_normal, athen_exit, athen_ret, ablock_self, ablock_ne, ablock_normal, ablock_ret, Nat.reduceBEq])
    | (clear hK K; refine hK _ _ ?_; clear hK K)
    | (clear hK K; clear hK K; refine hK _ _ ?_; clear hK K)
    | (clear hK K; clear hK K; clear hK K; refine hK _ _ ?_; clear hK K)
    | (clear hK K; clear hK K; clear hK K; clear hK K; refine hK _ _ ?_; clear hK K)
    | (clear hK K; clear hK K; clear hK K; clear hK K; clear hK K; refine hK _ _ ?_; clear hK K))
        refine awp_countU (fun k => (some V.junk :: some V.junk :: none :: none :: none :: none :: some V.junk :: some V.junk :: none :: none :: some V.junk :: some (V.str (climb id (s.drop 564) f v0 k)) :: some V.junk :: some (V.int .i64 k) :: some V.junk :: some V.junk :: some V.junk :: some V.junk :: some V.junk :: some V.junk :: some V.junk :: some V.junk :: some V.junk :: some V.junk :: some V.junk :: some V.junk :: some V.junk :: some V.junk :: some V.junk :: some V.junk :: some V.junk :: some V.junk :: some V.junk :: some V.junk :: some V.junk :: some V.junk :: some V.junk :: some V.junk :: some V.junk :: some V.junk :: some V.junk :: some V.junk :: some V.junk :: some V.junk :: some V.junk :: some V.junk :: some V.junk :: some V.junk :: some V.junk :: some V.junk :: some V.junk :: some V.junk :: some V.junk :: some V.junk :: some V.junk :: some V.junk :: some V.junk :: some V.junk :: some V.junk :: some V.junk :: some V.junk :: some V.junk :: some V.junk :: some V.junk :: some V.junk :: some V.junk :: some V.junk :: some V.junk :: some V.junk :: some V.junk :: some V.junk :: some V.junk :: some V.junk :: some V.junk :: some V.junk :: some V.junk :: some V.junk :: some V.junk :: some V.junk :: some V.junk :: some V.junk :: some V.junk :: some V.junk :: some V.junk :: some V.junk :: some V.junk :: some V.junk :: some V.junk :: some V.junk :: some V.junk :: some V.junk :: some V.junk :: some V.junk :: some V.junk :: some V.junk :: some V.junk :: some V.junk :: some V.junk :: some V.junk :: some V.junk :: some V.junk :: some V.junk :: some V.junk :: some V.junk :: some V.junk :: some V.junk :: some V.junk :: some V.junk :: some V.junk :: [])) (fun k => [.live [.int .i64 n, .str id, .str root]]) n ?_ fun k hk KL hL => ?_
        · dsimp only [ups_some, ups_none, ups_nil, ups_nil']
          exact Le.mk [some 0] (by simp [climb]) (rowsRen_of (by simp) (by simp [rowsOver])) (by simp)
        dsimp only [ups_some, ups_none, ups_nil, ups_nil']
        have hcl := climb_length id (s.drop 564) f v0 hpl k
        rcases Nat.lt_or_ge k n with hk | hk
        · have hq : f / 2 ^ k < 256 := Nat.lt_of_le_of_lt (Nat.div_le_self _ _) (by omega)
          have hcs : climb id (s.drop 564) f v0 (k + 1) = if f / 2 ^ k % 2 = 0 then parS id (k : Int) ((f / 2 ^ k / 2 : Nat) : Int) (climb id (s.drop 564) f v0 k) (sib (s.drop 564) k) else parS id (k : Int) ((f / 2 ^ k / 2 : Nat) : Int) (sib (s.drop 564) k) (climb id (s.drop 564) f v0 k) := rfl
          have hsb : (List.drop (564 + 16 * k) s).take 16 = sib (s.drop 564) k := by rw [sib, List.drop_drop]
          have hsl2 : (sib (s.drop 564) k).length = 16 := by simp [sib]; omega
          rw [hcs] at hL
          clear hcs
          generalize hq0 : f / 2 ^ k = q at *
          generalize List.drop 564 s = rest at *
          generalize climb id rest f v0 k = c at *
          generalize sib rest k = sb at *
          have hshr := shr_nat f k
          rw [hq0] at hshr
          have t1 : ((564 : Int) + (k : Int) * 16).toNat = 564 + 16 * k := by omega
          have t2 : ((564 : Int) + ((k : Int) + 1) * 16).toNat - (564 + 16 * k) = 16 := by omega
          by_cases hpar : q % 2 = 0
          · rw [if_pos hpar] at hL
            have hpar' : (q : Int) % 2 = 0 := by omega
            have hpm := rshort_call [[78], id, b1S k, wbytes ((q : Int) / 2), c, sb] (by simp) (by simp; omega)
            rw [show shaT [[78], id, b1S k, wbytes ((q : Int) / 2), c, sb].flatten = parS id k ((q / 2 : Nat) : Int) c sb by simp [parS]] at hpm
            repeat' (first
    | ((first | refine arun_go0 rfl fun K9 h9 => ?_ | refine arunD_goF rfl rfl fun K9 h9 => ?_ | refine arunD_goT rfl rfl fun K9 h9 => ?_ | (refine arun_go ?_ ?_; (focus (simp [hpar', t1, t2, hsb, hshr]; done)); intro K9 h9) | ((first | refine arunD_gF rfl ?_ ?_ | refine arunD_gT rfl ?_ ?_); (focus (simp [hpar', t1, t2, hsb, hshr]; done)); intro K9 h9)); simp (disch := (first | (simp; done) | omega | (simp; omega))) [hpar', t1, t2, hsb, hshr]; (try simp (disch := (first | omega | (simp; omega))) only [wrap_i64, wrap_u8, wrap_u32, wrap_u64, Int.tmod_eq_emod_of_nonneg, Int.tdiv_eq_ediv_of_nonneg]); (first | refine acall_pure (rb4_call _) (by simp) ?_ | refine acall_pure (rb1_call _) (by simp) ?_ | refine acall_view hpm ⟨view_row rfl (by simp) (by simp), trivial⟩ .str ?_ | skip); (repeat (refine And.intro (by first | omega | (simp; first | done | omega) | assumption | (intro e9; have e8 := congrArg List.length e9; first | (simp at e8; done) | ((try simp only [List.length_map, List.length_append] at e8); rw [List.length_nil] at e8; omega))) ?_)); (first | refine h9 _ _ (arun_slots (by first | (dsimp only [sput, sset]; done) | rfl) ?_) | refine h9 _ _ (arunD_slots' (by first | (dsimp only [sput, sset]; done) | rfl) (by first | (dsimp only [List.tail]; done) | rfl) ?_)); clear h9 K9)
    | (refine arun_end ?_)
    | (refine arunD_end ?_)
    | (refine awp_seq fun K hK => ?_)
    | (refine awp_region ?_)
    | (refine hK _ _ ?_; clear hK K)
    | ((first | refine awp_region_draw' (m := 1) (by decide +kernel) [] (by kernel_rfl) (by decide +kernel) ?_); dsimp only [List.replicate, List.append_nil, List.cons_append, List.nil_append, List.length_cons, List.length_nil])
    | (refine awp_block ?_)
    | (refine awp_cond rfl (fun hcnd => ?_) (fun hcnd => ?_) <;> (try simp at hcnd) <;> (try contradiction) <;> (try (exfalso; omega)))
    | (refine awp_skip ?_)
    | (refine awp_exit ?_; simp only [athen_normal, athen_exit, athen_ret, ablock_self, ablock_ne, ablock_normal, ablock_ret, Nat.reduceBEq])
    | (refine awp_ret ?_; refine ret_go ?_)
    | (refine arun_no ?_ ?_; (focus (simp [hpar', t1, t2, hsb, hshr]; done)); refine arun_slots (by first | (dsimp only [sput, sset]; done) | rfl) ?_)
    | ((first | refine arunD_nF rfl ?_ ?_ | refine arunD_nT rfl ?_ ?_); (focus (simp [hpar', t1, t2, hsb, hshr]; done)); refine arunD_slots' (by first | (dsimp only [sput, sset]; done) | rfl) (by first | (dsimp only [List.tail]; done) | rfl) ?_)
    | (refine fall_go ?_)
    | (simp only [athen_normal, athen_exit, athen_ret, ablock_self, ablock_ne, ablock_normal, ablock_ret, Nat.reduceBEq])
    | (clear hK K; refine hK _ _ ?_; clear hK K)
    | (clear hK K; clear hK K; refine hK _ _ ?_; clear hK K)
    | (clear hK K; clear hK K; clear hK K; refine hK _ _ ?_; clear hK K)
    | (clear hK K; clear hK K; clear hK K; clear hK K; refine hK _ _ ?_; clear hK K)
    | (clear hK K; clear hK K; clear hK K; clear hK K; clear hK K; refine hK _ _ ?_; clear hK K))
            refine hL _ _ hk ?_
            exact Le.mk [some 0] (by dsimp only [ups_some, ups_none, ups_nil, ups_nil']; simp) (rowsRen_of (by simp) (by simp [rowsOver])) (by simp)
          · rw [if_neg hpar] at hL
            have hpar' : (q : Int) % 2 = 1 := by omega
            have hpm := rshort_call [[78], id, b1S k, wbytes ((q : Int) / 2), sb, c] (by simp) (by simp; omega)
            rw [show shaT [[78], id, b1S k, wbytes ((q : Int) / 2), sb, c].flatten = parS id k ((q / 2 : Nat) : Int) sb c by simp [parS]] at hpm
            repeat' (first
    | ((first | refine arun_go0 rfl fun K9 h9 => ?_ | refine arunD_goF rfl rfl fun K9 h9 => ?_ | refine arunD_goT rfl rfl fun K9 h9 => ?_ | (refine arun_go ?_ ?_; (focus (simp [hpar', t1, t2, hsb, hshr]; done)); intro K9 h9) | ((first | refine arunD_gF rfl ?_ ?_ | refine arunD_gT rfl ?_ ?_); (focus (simp [hpar', t1, t2, hsb, hshr]; done)); intro K9 h9)); simp (disch := (first | (simp; done) | omega | (simp; omega))) [hpar', t1, t2, hsb, hshr]; (try simp (disch := (first | omega | (simp; omega))) only [wrap_i64, wrap_u8, wrap_u32, wrap_u64, Int.tmod_eq_emod_of_nonneg, Int.tdiv_eq_ediv_of_nonneg]); (first | refine acall_pure (rb4_call _) (by simp) ?_ | refine acall_pure (rb1_call _) (by simp) ?_ | refine acall_view hpm ⟨view_row rfl (by simp) (by simp), trivial⟩ .str ?_ | skip); (repeat (refine And.intro (by first | omega | (simp; first | done | omega) | assumption | (intro e9; have e8 := congrArg List.length e9; first | (simp at e8; done) | ((try simp only [List.length_map, List.length_append] at e8); rw [List.length_nil] at e8; omega))) ?_)); (first | refine h9 _ _ (arun_slots (by first | (dsimp only [sput, sset]; done) | rfl) ?_) | refine h9 _ _ (arunD_slots' (by first | (dsimp only [sput, sset]; done) | rfl) (by first | (dsimp only [List.tail]; done) | rfl) ?_)); clear h9 K9)
    | (refine arun_end ?_)
    | (refine arunD_end ?_)
    | (refine awp_seq fun K hK => ?_)
    | (refine awp_region ?_)
    | (refine hK _ _ ?_; clear hK K)
    | ((first | refine awp_region_draw' (m := 1) (by decide +kernel) [] (by kernel_rfl) (by decide +kernel) ?_); dsimp only [List.replicate, List.append_nil, List.cons_append, List.nil_append, List.length_cons, List.length_nil])
    | (refine awp_block ?_)
    | (refine awp_cond rfl (fun hcnd => ?_) (fun hcnd => ?_) <;> (try simp at hcnd) <;> (try contradiction) <;> (try (exfalso; omega)))
    | (refine awp_skip ?_)
    | (refine awp_exit ?_; simp only [athen_normal, athen_exit, athen_ret, ablock_self, ablock_ne, ablock_normal, ablock_ret, Nat.reduceBEq])
    | (refine awp_ret ?_; refine ret_go ?_)
    | (refine arun_no ?_ ?_; (focus (simp [hpar', t1, t2, hsb, hshr]; done)); refine arun_slots (by first | (dsimp only [sput, sset]; done) | rfl) ?_)
    | ((first | refine arunD_nF rfl ?_ ?_ | refine arunD_nT rfl ?_ ?_); (focus (simp [hpar', t1, t2, hsb, hshr]; done)); refine arunD_slots' (by first | (dsimp only [sput, sset]; done) | rfl) (by first | (dsimp only [List.tail]; done) | rfl) ?_)
    | (refine fall_go ?_)
    | (simp only [athen_normal, athen_exit, athen_ret, ablock_self, ablock_ne, ablock_normal, ablock_ret, Nat.reduceBEq])
    | (clear hK K; refine hK _ _ ?_; clear hK K)
    | (clear hK K; clear hK K; refine hK _ _ ?_; clear hK K)
    | (clear hK K; clear hK K; clear hK K; refine hK _ _ ?_; clear hK K)
    | (clear hK K; clear hK K; clear hK K; clear hK K; refine hK _ _ ?_; clear hK K)
    | (clear hK K; clear hK K; clear hK K; clear hK K; clear hK K; refine hK _ _ ?_; clear hK K))
            refine hL _ _ hk ?_
            exact Le.mk [some 0] (by dsimp only [ups_some, ups_none, ups_nil, ups_nil']; simp) (rowsRen_of (by simp) (by simp [rowsOver])) (by simp)
        obtain rfl : k = n := by omega
        by_cases hroot : climb id (s.drop 564) f v0 k = root
        · repeat' (first
    | ((first | refine arun_go0 rfl fun K9 h9 => ?_ | refine arunD_goF rfl rfl fun K9 h9 => ?_ | refine arunD_goT rfl rfl fun K9 h9 => ?_ | (refine arun_go ?_ ?_; (focus (simp [hroot]; done)); intro K9 h9) | ((first | refine arunD_gF rfl ?_ ?_ | refine arunD_gT rfl ?_ ?_); (focus (simp [hroot]; done)); intro K9 h9)); simp (disch := (first | (simp; done) | omega | (simp; omega))) [hroot]; (try simp (disch := (first | omega | (simp; omega))) only [wrap_i64, wrap_u8, wrap_u32, wrap_u64, Int.tmod_eq_emod_of_nonneg, Int.tdiv_eq_ediv_of_nonneg]); (repeat (refine And.intro (by first | omega | (simp; first | done | omega) | assumption | (intro e9; have e8 := congrArg List.length e9; first | (simp at e8; done) | ((try simp only [List.length_map, List.length_append] at e8); rw [List.length_nil] at e8; omega))) ?_)); (first | refine h9 _ _ (arun_slots (by first | (dsimp only [sput, sset]; done) | rfl) ?_) | refine h9 _ _ (arunD_slots' (by first | (dsimp only [sput, sset]; done) | rfl) (by first | (dsimp only [List.tail]; done) | rfl) ?_)); clear h9 K9)
    | (refine arun_end ?_)
    | (refine arunD_end ?_)
    | (refine awp_seq fun K hK => ?_)
    | (refine awp_region ?_)
    | (refine hK _ _ ?_; clear hK K)
    | ((first | refine awp_region_draw' (m := 1) (by decide +kernel) [] (by kernel_rfl) (by decide +kernel) ?_); dsimp only [List.replicate, List.append_nil, List.cons_append, List.nil_append, List.length_cons, List.length_nil])
    | (refine awp_block ?_)
    | (refine awp_cond rfl (fun hcnd => ?_) (fun hcnd => ?_) <;> (try simp at hcnd) <;> (try contradiction) <;> (try (exfalso; omega)))
    | (refine awp_skip ?_)
    | (refine awp_exit ?_; simp only [athen_normal, athen_exit, athen_ret, ablock_self, ablock_ne, ablock_normal, ablock_ret, Nat.reduceBEq])
    | (refine awp_ret ?_; refine ret_go ?_)
    | (refine arun_no ?_ ?_; (focus (simp [hroot]; done)); refine arun_slots (by first | (dsimp only [sput, sset]; done) | rfl) ?_)
    | ((first | refine arunD_nF rfl ?_ ?_ | refine arunD_nT rfl ?_ ?_); (focus (simp [hroot]; done)); refine arunD_slots' (by first | (dsimp only [sput, sset]; done) | rfl) (by first | (dsimp only [List.tail]; done) | rfl) ?_)
    | (refine fall_go ?_)
    | (simp only [athen_normal, athen_exit, athen_ret, ablock_self, ablock_ne, ablock_normal, ablock_ret, Nat.reduceBEq])
    | (clear hK K; refine hK _ _ ?_; clear hK K)
    | (clear hK K; clear hK K; refine hK _ _ ?_; clear hK K)
    | (clear hK K; clear hK K; clear hK K; refine hK _ _ ?_; clear hK K)
    | (clear hK K; clear hK K; clear hK K; clear hK K; refine hK _ _ ?_; clear hK K)
    | (clear hK K; clear hK K; clear hK K; clear hK K; clear hK K; refine hK _ _ ?_; clear hK K))
          simp [hroot]
          exact .pure .int
        · repeat' (first
    | ((first | refine arun_go0 rfl fun K9 h9 => ?_ | refine arunD_goF rfl rfl fun K9 h9 => ?_ | refine arunD_goT rfl rfl fun K9 h9 => ?_ | (refine arun_go ?_ ?_; (focus (simp [hroot]; done)); intro K9 h9) | ((first | refine arunD_gF rfl ?_ ?_ | refine arunD_gT rfl ?_ ?_); (focus (simp [hroot]; done)); intro K9 h9)); simp (disch := (first | (simp; done) | omega | (simp; omega))) [hroot]; (try simp (disch := (first | omega | (simp; omega))) only [wrap_i64, wrap_u8, wrap_u32, wrap_u64, Int.tmod_eq_emod_of_nonneg, Int.tdiv_eq_ediv_of_nonneg]); (repeat (refine And.intro (by first | omega | (simp; first | done | omega) | assumption | (intro e9; have e8 := congrArg List.length e9; first | (simp at e8; done) | ((try simp only [List.length_map, List.length_append] at e8); rw [List.length_nil] at e8; omega))) ?_)); (first | refine h9 _ _ (arun_slots (by first | (dsimp only [sput, sset]; done) | rfl) ?_) | refine h9 _ _ (arunD_slots' (by first | (dsimp only [sput, sset]; done) | rfl) (by first | (dsimp only [List.tail]; done) | rfl) ?_)); clear h9 K9)
    | (refine arun_end ?_)
    | (refine arunD_end ?_)
    | (refine awp_seq fun K hK => ?_)
    | (refine awp_region ?_)
    | (refine hK _ _ ?_; clear hK K)
    | ((first | refine awp_region_draw' (m := 1) (by decide +kernel) [] (by kernel_rfl) (by decide +kernel) ?_); dsimp only [List.replicate, List.append_nil, List.cons_append, List.nil_append, List.length_cons, List.length_nil])
    | (refine awp_block ?_)
    | (refine awp_cond rfl (fun hcnd => ?_) (fun hcnd => ?_) <;> (try simp at hcnd) <;> (try contradiction) <;> (try (exfalso; omega)))
    | (refine awp_skip ?_)
    | (refine awp_exit ?_; simp only [athen_normal, athen_exit, athen_ret, ablock_self, ablock_ne, ablock_normal, ablock_ret, Nat.reduceBEq])
    | (refine awp_ret ?_; refine ret_go ?_)
    | (refine arun_no ?_ ?_; (focus (simp [hroot]; done)); refine arun_slots (by first | (dsimp only [sput, sset]; done) | rfl) ?_)
    | ((first | refine arunD_nF rfl ?_ ?_ | refine arunD_nT rfl ?_ ?_); (focus (simp [hroot]; done)); refine arunD_slots' (by first | (dsimp only [sput, sset]; done) | rfl) (by first | (dsimp only [List.tail]; done) | rfl) ?_)
    | (refine fall_go ?_)
    | (simp only [athen_normal, athen_exit, athen_ret, ablock_self, ablock_ne, ablock_normal, ablock_ret, Nat.reduceBEq])
    | (clear hK K; refine hK _ _ ?_; clear hK K)
    | (clear hK K; clear hK K; refine hK _ _ ?_; clear hK K)
    | (clear hK K; clear hK K; clear hK K; refine hK _ _ ?_; clear hK K)
    | (clear hK K; clear hK K; clear hK K; clear hK K; refine hK _ _ ?_; clear hK K)
    | (clear hK K; clear hK K; clear hK K; clear hK K; clear hK K; refine hK _ _ ?_; clear hK K))
          simp [hroot]
          exact .pure .int
      · rw [verE_form hk (by right; rw [Int.toNat_natCast]; omega)]
        obtain ⟨f, hf⟩ := Int.eq_ofNat_of_zero_le b1
        rw [hf] at hlf hb
        obtain ⟨p, hp⟩ : ∃ p, 2 ^ n = p := ⟨_, rfl⟩
        rw [hp] at hb hsl h256
        have hb' : ¬ f < p := by omega
        clear hlv
        repeat' (first
    | ((first | refine arun_go0 rfl fun K9 h9 => ?_ | refine arunD_goF rfl rfl fun K9 h9 => ?_ | refine arunD_goT rfl rfl fun K9 h9 => ?_ | (refine arun_go ?_ ?_; (focus (simp [hl, hb', hsl]; done)); intro K9 h9) | ((first | refine arunD_gF rfl ?_ ?_ | refine arunD_gT rfl ?_ ?_); (focus (simp [hl, hb', hsl]; done)); intro K9 h9)); simp (disch := (first | (simp; done) | omega | (simp; omega))) [hl, hb', hsl]; (try simp (disch := (first | omega | (simp; omega))) only [wrap_i64, wrap_u8, wrap_u32, wrap_u64, Int.tmod_eq_emod_of_nonneg, Int.tdiv_eq_ediv_of_nonneg]); (first | refine acall_pure (hck) (by simp) ?_ | refine acall_pure (hlf) (by simp) ?_ | skip); (repeat (refine And.intro (by first | omega | (simp; first | done | omega) | assumption | (intro e9; have e8 := congrArg List.length e9; first | (simp at e8; done) | ((try simp only [List.length_map, List.length_append] at e8); rw [List.length_nil] at e8; omega))) ?_)); (first | refine h9 _ _ (arun_slots (by first | (dsimp only [sput, sset]; done) | rfl) ?_) | refine h9 _ _ (arunD_slots' (by first | (dsimp only [sput, sset]; done) | rfl) (by first | (dsimp only [List.tail]; done) | rfl) ?_)); clear h9 K9)
    | (refine arun_end ?_)
    | (refine arunD_end ?_)
    | (refine awp_seq fun K hK => ?_)
    | (refine awp_region ?_)
    | (refine hK _ _ ?_; clear hK K)
    | ((first | refine awp_region_draw' (m := 1) (by decide +kernel) [] (by kernel_rfl) (by decide +kernel) ?_); dsimp only [List.replicate, List.append_nil, List.cons_append, List.nil_append, List.length_cons, List.length_nil])
    | (refine awp_block ?_)
    | (refine awp_cond rfl (fun hcnd => ?_) (fun hcnd => ?_) <;> (try simp at hcnd) <;> (try contradiction) <;> (try (exfalso; omega)))
    | (refine awp_skip ?_)
    | (refine awp_exit ?_; simp only [athen_normal, athen_exit, athen_ret, ablock_self, ablock_ne, ablock_normal, ablock_ret, Nat.reduceBEq])
    | (refine awp_ret ?_; refine ret_go ?_)
    | (refine arun_no ?_ ?_; (focus (simp [hl, hb', hsl]; done)); refine arun_slots (by first | (dsimp only [sput, sset]; done) | rfl) ?_)
    | ((first | refine arunD_nF rfl ?_ ?_ | refine arunD_nT rfl ?_ ?_); (focus (simp [hl, hb', hsl]; done)); refine arunD_slots' (by first | (dsimp only [sput, sset]; done) | rfl) (by first | (dsimp only [List.tail]; done) | rfl) ?_)
    | (refine fall_go ?_)
    | (simp only [athen_normal, athen_exit, athen_ret, ablock_self, ablock_ne, ablock_normal, ablock_ret, Nat.reduceBEq])
    | (clear hK K; refine hK _ _ ?_; clear hK K)
    | (clear hK K; clear hK K; refine hK _ _ ?_; clear hK K)
    | (clear hK K; clear hK K; clear hK K; refine hK _ _ ?_; clear hK K)
    | (clear hK K; clear hK K; clear hK K; clear hK K; refine hK _ _ ?_; clear hK K)
    | (clear hK K; clear hK K; clear hK K; clear hK K; clear hK K; refine hK _ _ ?_; clear hK K))
        (try simp)
        exact .pure .int
    · rw [verE_form hk (by left; omega)]
      obtain ⟨x, y, hlv⟩ : ∃ x y, leafV s = .tup [.int .i64 x, .bool y] := by
        unfold leafV; split
        · exact ⟨_, _, rfl⟩
        · exact ⟨_, _, rfl⟩
      rw [hlv] at hlf
      clear hlv
      repeat' (first
    | ((first | refine arun_go0 rfl fun K9 h9 => ?_ | refine arunD_goF rfl rfl fun K9 h9 => ?_ | refine arunD_goT rfl rfl fun K9 h9 => ?_ | (refine arun_go ?_ ?_; (focus (simp [hl]; done)); intro K9 h9) | ((first | refine arunD_gF rfl ?_ ?_ | refine arunD_gT rfl ?_ ?_); (focus (simp [hl]; done)); intro K9 h9)); simp (disch := (first | (simp; done) | omega | (simp; omega))) [hl]; (try simp (disch := (first | omega | (simp; omega))) only [wrap_i64, wrap_u8, wrap_u32, wrap_u64, Int.tmod_eq_emod_of_nonneg, Int.tdiv_eq_ediv_of_nonneg]); (first | refine acall_pure (hck) (by simp) ?_ | refine acall_pure (hlf) (by simp) ?_ | skip); (repeat (refine And.intro (by first | omega | (simp; first | done | omega) | assumption | (intro e9; have e8 := congrArg List.length e9; first | (simp at e8; done) | ((try simp only [List.length_map, List.length_append] at e8); rw [List.length_nil] at e8; omega))) ?_)); (first | refine h9 _ _ (arun_slots (by first | (dsimp only [sput, sset]; done) | rfl) ?_) | refine h9 _ _ (arunD_slots' (by first | (dsimp only [sput, sset]; done) | rfl) (by first | (dsimp only [List.tail]; done) | rfl) ?_)); clear h9 K9)
    | (refine arun_end ?_)
    | (refine arunD_end ?_)
    | (refine awp_seq fun K hK => ?_)
    | (refine awp_region ?_)
    | (refine hK _ _ ?_; clear hK K)
    | ((first | refine awp_region_draw' (m := 1) (by decide +kernel) [] (by kernel_rfl) (by decide +kernel) ?_); dsimp only [List.replicate, List.append_nil, List.cons_append, List.nil_append, List.length_cons, List.length_nil])
    | (refine awp_block ?_)
    | (refine awp_cond rfl (fun hcnd => ?_) (fun hcnd => ?_) <;> (try simp at hcnd) <;> (try contradiction) <;> (try (exfalso; omega)))
    | (refine awp_skip ?_)
    | (refine awp_exit ?_; simp only [athen_normal, athen_exit, athen_ret, ablock_self, ablock_ne, ablock_normal, ablock_ret, Nat.reduceBEq])
    | (refine awp_ret ?_; refine ret_go ?_)
    | (refine arun_no ?_ ?_; (focus (simp [hl]; done)); refine arun_slots (by first | (dsimp only [sput, sset]; done) | rfl) ?_)
    | ((first | refine arunD_nF rfl ?_ ?_ | refine arunD_nT rfl ?_ ?_); (focus (simp [hl]; done)); refine arunD_slots' (by first | (dsimp only [sput, sset]; done) | rfl) (by first | (dsimp only [List.tail]; done) | rfl) ?_)
    | (refine fall_go ?_)
    | (simp only [athen_normal, athen_exit, athen_ret, ablock_self, ablock_ne, ablock_normal, ablock_ret, Nat.reduceBEq])
    | (clear hK K; refine hK _ _ ?_; clear hK K)
    | (clear hK K; clear hK K; refine hK _ _ ?_; clear hK K)
    | (clear hK K; clear hK K; clear hK K; refine hK _ _ ?_; clear hK K)
    | (clear hK K; clear hK K; clear hK K; clear hK K; refine hK _ _ ?_; clear hK K)
    | (clear hK K; clear hK K; clear hK K; clear hK K; clear hK K; refine hK _ _ ?_; clear hK K))
      (try simp)
      exact .pure .int
  · rw [verE_key hk]
    rw [keyE_18 hk] at hck
    repeat' (first
    | ((first | refine arun_go0 rfl fun K9 h9 => ?_ | refine arunD_goF rfl rfl fun K9 h9 => ?_ | refine arunD_goT rfl rfl fun K9 h9 => ?_ | (refine arun_go ?_ ?_; (focus (simp ; done)); intro K9 h9) | ((first | refine arunD_gF rfl ?_ ?_ | refine arunD_gT rfl ?_ ?_); (focus (simp ; done)); intro K9 h9)); simp (disch := (first | (simp; done) | omega | (simp; omega))) ; (try simp (disch := (first | omega | (simp; omega))) only [wrap_i64, wrap_u8, wrap_u32, wrap_u64, Int.tmod_eq_emod_of_nonneg, Int.tdiv_eq_ediv_of_nonneg]); (first | refine acall_pure (hck) (by simp) ?_ | skip); (repeat (refine And.intro (by first | omega | (simp; first | done | omega) | assumption | (intro e9; have e8 := congrArg List.length e9; first | (simp at e8; done) | ((try simp only [List.length_map, List.length_append] at e8); rw [List.length_nil] at e8; omega))) ?_)); (first | refine h9 _ _ (arun_slots (by first | (dsimp only [sput, sset]; done) | rfl) ?_) | refine h9 _ _ (arunD_slots' (by first | (dsimp only [sput, sset]; done) | rfl) (by first | (dsimp only [List.tail]; done) | rfl) ?_)); clear h9 K9)
    | (refine arun_end ?_)
    | (refine arunD_end ?_)
    | (refine awp_seq fun K hK => ?_)
    | (refine awp_region ?_)
    | (refine hK _ _ ?_; clear hK K)
    | ((first | refine awp_region_draw' (m := 1) (by decide +kernel) [] (by kernel_rfl) (by decide +kernel) ?_); dsimp only [List.replicate, List.append_nil, List.cons_append, List.nil_append, List.length_cons, List.length_nil])
    | (refine awp_block ?_)
    | (refine awp_cond rfl (fun hcnd => ?_) (fun hcnd => ?_) <;> (try simp at hcnd) <;> (try contradiction) <;> (try (exfalso; omega)))
    | (refine awp_skip ?_)
    | (refine awp_exit ?_; simp only [athen_normal, athen_exit, athen_ret, ablock_self, ablock_ne, ablock_normal, ablock_ret, Nat.reduceBEq])
    | (refine awp_ret ?_; refine ret_go ?_)
    | (refine arun_no ?_ ?_; (focus (simp ; done)); refine arun_slots (by first | (dsimp only [sput, sset]; done) | rfl) ?_)
    | ((first | refine arunD_nF rfl ?_ ?_ | refine arunD_nT rfl ?_ ?_); (focus (simp ; done)); refine arunD_slots' (by first | (dsimp only [sput, sset]; done) | rfl) (by first | (dsimp only [List.tail]; done) | rfl) ?_)
    | (refine fall_go ?_)
    | (simp only [athen_normal, athen_exit, athen_ret, ablock_self, ablock_ne, ablock_normal, ablock_ret, Nat.reduceBEq])
    | (clear hK K; refine hK _ _ ?_; clear hK K)
    | (clear hK K; clear hK K; refine hK _ _ ?_; clear hK K)
    | (clear hK K; clear hK K; clear hK K; refine hK _ _ ?_; clear hK K)
    | (clear hK K; clear hK K; clear hK K; clear hK K; refine hK _ _ ?_; clear hK K)
    | (clear hK K; clear hK K; clear hK K; clear hK K; clear hK K; refine hK _ _ ?_; clear hK K))
    (try simp)
    exact .pure .int
  · exact .int
end Go.Proofs.Ythcdofbmmibgjaa
namespace Go.Proofs.Ythcdofbmmibgjaa
open Go.VS
set_option linter.all false
attribute [local irreducible] arun arunD AWp aend shaS shaT

def rtV (seed : List UInt8) (h : Nat) : V := .agg [.str seed, .str (idS seed), .sl (h + 1) (lvVs seed h (h + 1))]
@[simp] theorem rtV_pure (seed : List UInt8) (h : Nat) : (rtV seed h).Pure := by simp [rtV]

set_option maxRecDepth 100000 in
set_option maxHeartbeats 4000000 in
theorem rgenerate_call (seed : List UInt8) (h : Nat) (hs : seed.length = 32) (hh : h ≤ 8) : PCall Try.prog 28 [.str seed, .int .i64 h] (.tup [rtV seed h, .int .i64 0]) := by
  refine pcall_body Try.func28 rfl Try.call28 ?_ ?_
  rotate_left 1
  refine awp_slots (s' := ((.str seed : V) :: (.int .i64 h : V) :: V.junk :: V.junk :: V.junk :: V.junk :: V.junk :: V.junk :: V.junk :: V.junk :: V.junk :: V.junk :: V.junk :: V.junk :: V.junk :: V.junk :: V.junk :: V.junk :: V.junk :: V.junk :: V.junk :: V.junk :: V.junk :: V.junk :: V.junk :: V.junk :: V.junk :: V.junk :: V.junk :: V.junk :: V.junk :: V.junk :: V.junk :: V.junk :: V.junk :: V.junk :: V.junk :: V.junk :: V.junk :: V.junk :: V.junk :: V.junk :: V.junk :: V.junk :: V.junk :: V.junk :: V.junk :: V.junk :: V.junk :: V.junk :: V.junk :: V.junk :: V.junk :: V.junk :: V.junk :: V.junk :: V.junk :: V.junk :: V.junk :: V.junk :: V.junk :: V.junk :: V.junk :: V.junk :: V.junk :: V.junk :: V.junk :: V.junk :: V.junk :: V.junk :: V.junk :: V.junk :: V.junk :: V.junk :: V.junk :: V.junk :: V.junk :: V.junk :: V.junk :: V.junk :: V.junk :: V.junk :: V.junk :: V.junk :: V.junk :: V.junk :: V.junk :: V.junk :: V.junk :: V.junk :: V.junk :: V.junk :: V.junk :: V.junk :: V.junk :: [])) rfl ?_
  have hsl := shl_one h hh
  have h256 := pow_le_256 hh
  have hid := idS_length seed
  obtain ⟨p, hp⟩ : ∃ p, 2 ^ h = p := ⟨_, rfl⟩
  have hl0 : lvl (idS seed) seed h 0 = lv0 (idS seed) seed p := by rw [lvl, hp]
  rw [hp] at hsl h256
  have hsh := rshort_call [[73], seed] (by simp) (by simp; omega)
  rw [show shaT [[73], seed].flatten = idS seed by simp [idS]] at hsh
  repeat' (first
    | ((first | refine arun_go0 rfl fun K9 h9 => ?_ | refine arunD_goF rfl rfl fun K9 h9 => ?_ | refine arunD_goT rfl rfl fun K9 h9 => ?_ | (refine arun_go ?_ ?_; (focus (simp [hs]; done)); intro K9 h9) | ((first | refine arunD_gF rfl ?_ ?_ | refine arunD_gT rfl ?_ ?_); (focus (simp [hs]; done)); intro K9 h9)); simp (disch := (first | (simp; done) | omega | (simp; omega))) [hs]; (try simp (disch := (first | omega | (simp; omega))) only [wrap_i64, wrap_u8, wrap_u32, wrap_u64, Int.tmod_eq_emod_of_nonneg, Int.tdiv_eq_ediv_of_nonneg]); (first | refine acall_view hsh ⟨view_row rfl (by simp) (by simp), trivial⟩ .str ?_ | skip); (repeat (refine And.intro (by first | omega | (simp; first | done | omega) | assumption | (intro e9; have e8 := congrArg List.length e9; first | (simp at e8; done) | ((try simp only [List.length_map, List.length_append] at e8); rw [List.length_nil] at e8; omega))) ?_)); (first | refine h9 _ _ (arun_slots (by first | (dsimp only [sput, sset]; done) | rfl) ?_) | refine h9 _ _ (arunD_slots' (by first | (dsimp only [sput, sset]; done) | rfl) (by first | (dsimp only [List.tail]; done) | rfl) ?_)); clear h9 K9)
    | (refine arun_end ?_)
    | (refine arunD_end ?_)
    | (refine awp_seq fun K hK => ?_)
    | (refine awp_region ?_)
    | (refine hK _ _ ?_; clear hK K)
    | ((first | refine awp_region_draw' (m := 3) (by decide +kernel) [] (by kernel_rfl) (by decide +kernel) ?_); dsimp only [List.replicate, List.append_nil, List.cons_append, List.nil_append, List.length_cons, List.length_nil])
    | (refine awp_block ?_)
    | (refine awp_cond rfl (fun hcnd => ?_) (fun hcnd => ?_) <;> (try simp at hcnd) <;> (try contradiction) <;> (try (exfalso; omega)))
    | (refine awp_skip ?_)
    | (refine awp_exit ?_; simp only [athen_normal, athen_exit, athen_ret, ablock_self, ablock_ne, ablock_normal, ablock_ret, Nat.reduceBEq])
    | (refine awp_ret ?_; refine ret_go ?_)
    | (refine arun_no ?_ ?_; (focus (simp [hs]; done)); refine arun_slots (by first | (dsimp only [sput, sset]; done) | rfl) ?_)
    | ((first | refine arunD_nF rfl ?_ ?_ | refine arunD_nT rfl ?_ ?_); (focus (simp [hs]; done)); refine arunD_slots' (by first | (dsimp only [sput, sset]; done) | rfl) (by first | (dsimp only [List.tail]; done) | rfl) ?_)
    | (refine fall_go ?_)
    | (simp only [athen_normal, athen_exit, athen_ret, ablock_self, ablock_ne, ablock_normal, ablock_ret, Nat.reduceBEq])
    | (clear hK K; refine hK _ _ ?_; clear hK K)
    | (clear hK K; clear hK K; refine hK _ _ ?_; clear hK K)
    | (clear hK K; clear hK K; clear hK K; refine hK _ _ ?_; clear hK K)
    | (clear hK K; clear hK K; clear hK K; clear hK K; refine hK _ _ ?_; clear hK K)
    | (clear hK K; clear hK K; clear hK K; clear hK K; clear hK K; refine hK _ _ ?_; clear hK K))
  refine awp_countU (fun k => (none :: none :: none :: none :: none :: some V.junk :: some (V.ref 1 0) :: some (V.osl 2 0 k 1) :: some (V.int .i64 k) :: some V.junk :: some V.junk :: some V.junk :: some V.junk :: some V.junk :: some V.junk :: some V.junk :: some V.junk :: some V.junk :: some V.junk :: some V.junk :: some V.junk :: some V.junk :: some V.junk :: some V.junk :: some V.junk :: some V.junk :: some V.junk :: some V.junk :: some V.junk :: some V.junk :: some V.junk :: some V.junk :: some V.junk :: some V.junk :: some V.junk :: some V.junk :: some V.junk :: some V.junk :: some V.junk :: some V.junk :: some V.junk :: some V.junk :: some V.junk :: some V.junk :: some V.junk :: some V.junk :: some V.junk :: some V.junk :: some V.junk :: some V.junk :: some V.junk :: some V.junk :: some V.junk :: some V.junk :: some V.junk :: some V.junk :: some V.junk :: some V.junk :: some V.junk :: some V.junk :: some V.junk :: some V.junk :: some V.junk :: some V.junk :: some V.junk :: some V.junk :: some V.junk :: some V.junk :: some V.junk :: some V.junk :: some V.junk :: some V.junk :: some V.junk :: some V.junk :: some V.junk :: some V.junk :: some V.junk :: some V.junk :: some V.junk :: some V.junk :: some V.junk :: some V.junk :: some V.junk :: some V.junk :: some V.junk :: some V.junk :: some V.junk :: some V.junk :: some V.junk :: some V.junk :: some V.junk :: some V.junk :: some V.junk :: some V.junk :: some V.junk :: [])) (fun k => [.live [.str [], .str [], .nils], .live [.str seed, .str (idS seed), .nils], .live ((lv0 (idS seed) seed k).map V.str)]) p ?_ fun k hk KL hL => ?_
  · dsimp only [ups_some, ups_none, ups_nil, ups_nil']
    exact Le.mk [some 0, some 2, none] (by simp) (rowsRen_of (by simp) (by simp [rowsOver, lv0])) (by simp)
  dsimp only [ups_some, ups_none, ups_nil, ups_nil']
  have e4 : List.take k (List.map V.str (lv0 (idS seed) seed k)) = List.map V.str (lv0 (idS seed) seed k) := List.take_of_length_le (by simp)
  rcases Nat.lt_or_ge k p with hk | hk
  · have hpv := pubV_leaf (idS seed) seed k hid hs (by omega)
    have hop := ropublic_call (idS seed) seed k (by simp) (by omega)
    rw [hpv] at hop
    clear hpv
    repeat' (first
    | ((first | refine arun_go0 rfl fun K9 h9 => ?_ | refine arunD_goF rfl rfl fun K9 h9 => ?_ | refine arunD_goT rfl rfl fun K9 h9 => ?_ | (refine arun_go ?_ ?_; (focus (simp [hsl, e4]; done)); intro K9 h9) | ((first | refine arunD_gF rfl ?_ ?_ | refine arunD_gT rfl ?_ ?_); (focus (simp [hsl, e4]; done)); intro K9 h9)); simp (disch := (first | (simp; done) | omega | (simp; omega))) [hsl, e4]; (try simp (disch := (first | omega | (simp; omega))) only [wrap_i64, wrap_u8, wrap_u32, wrap_u64, Int.tmod_eq_emod_of_nonneg, Int.tdiv_eq_ediv_of_nonneg]); (first | refine acall_pure (hop) (by simp) ?_ | skip); (repeat (refine And.intro (by first | omega | (simp; first | done | omega) | assumption | (intro e9; have e8 := congrArg List.length e9; first | (simp at e8; done) | ((try simp only [List.length_map, List.length_append] at e8); rw [List.length_nil] at e8; omega))) ?_)); (first | refine h9 _ _ (arun_slots (by first | (dsimp only [sput, sset]; done) | rfl) ?_) | refine h9 _ _ (arunD_slots' (by first | (dsimp only [sput, sset]; done) | rfl) (by first | (dsimp only [List.tail]; done) | rfl) ?_)); clear h9 K9)
    | (refine arun_end ?_)
    | (refine arunD_end ?_)
    | (refine awp_seq fun K hK => ?_)
    | (refine awp_region ?_)
    | (refine hK _ _ ?_; clear hK K)
    | ((first | refine awp_region_draw' (m := 3) (by decide +kernel) [] (by kernel_rfl) (by decide +kernel) ?_); dsimp only [List.replicate, List.append_nil, List.cons_append, List.nil_append, List.length_cons, List.length_nil])
    | (refine awp_block ?_)
    | (refine awp_cond rfl (fun hcnd => ?_) (fun hcnd => ?_) <;> (try simp at hcnd) <;> (try contradiction) <;> (try (exfalso; omega)))
    | (refine awp_skip ?_)
    | (refine awp_exit ?_; simp only [athen_normal, athen_exit, athen_ret, ablock_self, ablock_ne, ablock_normal, ablock_ret, Nat.reduceBEq])
    | (refine awp_ret ?_; refine ret_go ?_)
    | (refine arun_no ?_ ?_; (focus (simp [hsl, e4]; done)); refine arun_slots (by first | (dsimp only [sput, sset]; done) | rfl) ?_)
    | ((first | refine arunD_nF rfl ?_ ?_ | refine arunD_nT rfl ?_ ?_); (focus (simp [hsl, e4]; done)); refine arunD_slots' (by first | (dsimp only [sput, sset]; done) | rfl) (by first | (dsimp only [List.tail]; done) | rfl) ?_)
    | (refine fall_go ?_)
    | (simp only [athen_normal, athen_exit, athen_ret, ablock_self, ablock_ne, ablock_normal, ablock_ret, Nat.reduceBEq])
    | (clear hK K; refine hK _ _ ?_; clear hK K)
    | (clear hK K; clear hK K; refine hK _ _ ?_; clear hK K)
    | (clear hK K; clear hK K; clear hK K; refine hK _ _ ?_; clear hK K)
    | (clear hK K; clear hK K; clear hK K; clear hK K; refine hK _ _ ?_; clear hK K)
    | (clear hK K; clear hK K; clear hK K; clear hK K; clear hK K; refine hK _ _ ?_; clear hK K))
    refine hL _ _ hk ?_
    exact Le.mk [some 0, some 1, some 4] (by dsimp only [ups_some, ups_none, ups_nil, ups_nil']; simp) (rowsRen_of (by simp) (by simp [rowsOver, lv0_succ])) (by simp)
  obtain rfl : k = p := by omega
  refine awp_freeze' 2 rfl (by simp) (by simp [fz, e4]; rfl) (by simp [fzRow, fz]; rfl) ?_
  repeat' (first
    | ((first | refine arun_go0 rfl fun K9 h9 => ?_ | refine arunD_goF rfl rfl fun K9 h9 => ?_ | refine arunD_goT rfl rfl fun K9 h9 => ?_ | (refine arun_go ?_ ?_; (focus (simp [hsl]; done)); intro K9 h9) | ((first | refine arunD_gF rfl ?_ ?_ | refine arunD_gT rfl ?_ ?_); (focus (simp [hsl]; done)); intro K9 h9)); simp (disch := (first | (simp; done) | omega | (simp; omega))) [hsl]; (try simp (disch := (first | omega | (simp; omega))) only [wrap_i64, wrap_u8, wrap_u32, wrap_u64, Int.tmod_eq_emod_of_nonneg, Int.tdiv_eq_ediv_of_nonneg]); (repeat (refine And.intro (by first | omega | (simp; first | done | omega) | assumption | (intro e9; have e8 := congrArg List.length e9; first | (simp at e8; done) | ((try simp only [List.length_map, List.length_append] at e8); rw [List.length_nil] at e8; omega))) ?_)); (first | refine h9 _ _ (arun_slots (by first | (dsimp only [sput, sset]; done) | rfl) ?_) | refine h9 _ _ (arunD_slots' (by first | (dsimp only [sput, sset]; done) | rfl) (by first | (dsimp only [List.tail]; done) | rfl) ?_)); clear h9 K9)
    | (refine arun_end ?_)
    | (refine arunD_end ?_)
    | (refine awp_seq fun K hK => ?_)
    | (refine awp_region ?_)
    | (refine hK _ _ ?_; clear hK K)
    | ((first | refine awp_region_draw' (m := 3) (by decide +kernel) [] (by kernel_rfl) (by decide +kernel) ?_); dsimp only [List.replicate, List.append_nil, List.cons_append, List.nil_append, List.length_cons, List.length_nil])
    | (refine awp_block ?_)
    | (refine awp_cond rfl (fun hcnd => ?_) (fun hcnd => ?_) <;> (try simp at hcnd) <;> (try contradiction) <;> (try (exfalso; omega)))
    | (refine awp_skip ?_)
    | (refine awp_exit ?_; simp only [athen_normal, athen_exit, athen_ret, ablock_self, ablock_ne, ablock_normal, ablock_ret, Nat.reduceBEq])
    | (refine awp_ret ?_; refine ret_go ?_)
    | (refine arun_no ?_ ?_; (focus (simp [hsl]; done)); refine arun_slots (by first | (dsimp only [sput, sset]; done) | rfl) ?_)
    | ((first | refine arunD_nF rfl ?_ ?_ | refine arunD_nT rfl ?_ ?_); (focus (simp [hsl]; done)); refine arunD_slots' (by first | (dsimp only [sput, sset]; done) | rfl) (by first | (dsimp only [List.tail]; done) | rfl) ?_)
    | (refine fall_go ?_)
    | (simp only [athen_normal, athen_exit, athen_ret, ablock_self, ablock_ne, ablock_normal, ablock_ret, Nat.reduceBEq])
    | (clear hK K; refine hK _ _ ?_; clear hK K)
    | (clear hK K; clear hK K; refine hK _ _ ?_; clear hK K)
    | (clear hK K; clear hK K; clear hK K; refine hK _ _ ?_; clear hK K)
    | (clear hK K; clear hK K; clear hK K; clear hK K; refine hK _ _ ?_; clear hK K)
    | (clear hK K; clear hK K; clear hK K; clear hK K; clear hK K; refine hK _ _ ?_; clear hK K))
  refine awp_countU (fun l => (some V.junk :: none :: none :: none :: none :: some V.junk :: none :: some (strsV (lvl (idS seed) seed h l)) :: some V.junk :: some V.junk :: some V.junk :: some (V.int .i64 l) :: some V.junk :: some V.junk :: some V.junk :: some V.junk :: some V.junk :: some V.junk :: some V.junk :: some V.junk :: some V.junk :: some V.junk :: some V.junk :: some V.junk :: some V.junk :: some V.junk :: some V.junk :: some V.junk :: some V.junk :: some V.junk :: some V.junk :: some V.junk :: some V.junk :: some V.junk :: some V.junk :: some V.junk :: some V.junk :: some V.junk :: some V.junk :: some V.junk :: some V.junk :: some V.junk :: some V.junk :: some V.junk :: some V.junk :: some V.junk :: some V.junk :: some V.junk :: some V.junk :: some V.junk :: some V.junk :: some V.junk :: some V.junk :: some V.junk :: some V.junk :: some V.junk :: some V.junk :: some V.junk :: some V.junk :: some V.junk :: some V.junk :: some V.junk :: some V.junk :: some V.junk :: some V.junk :: some V.junk :: some V.junk :: some V.junk :: some V.junk :: some V.junk :: some V.junk :: some V.junk :: some V.junk :: some V.junk :: some V.junk :: some V.junk :: some V.junk :: some V.junk :: some V.junk :: some V.junk :: some V.junk :: some V.junk :: some V.junk :: some V.junk :: some V.junk :: some V.junk :: some V.junk :: some V.junk :: some V.junk :: some V.junk :: some V.junk :: some V.junk :: some V.junk :: some V.junk :: some V.junk :: [])) (fun l => [.live [.str [], .str [], .nils], .live [.str seed, .str (idS seed), .osl 2 0 (l + 1) 1], .live (lvVs seed h (l + 1))]) h ?_ fun l hl KO hO => ?_
  · dsimp only [ups_some, ups_none, ups_nil, ups_nil']
    exact Le.mk [some 0, some 1, some 4] (by simp [strsV, hl0]) (rowsRen_of (by simp) (by simp [rowsOver, rowRen_live, lvVs, strsV, hl0])) (by simp)
  dsimp only [ups_some, ups_none, ups_nil, ups_nil']
  have e5 : List.take (l + 1) (lvVs seed h (l + 1)) = lvVs seed h (l + 1) := List.take_of_length_le (by simp)
  rcases Nat.lt_or_ge l h with hl | hl
  · have hlen := lvl_length (idS seed) seed h l (by omega)
    have h16 := lvl_16 (idS seed) seed h l
    have hpl : (lvl (idS seed) seed h l).length ≤ 256 := by rw [hlen]; exact pow_le_256 (by omega)
    have hvs := lvVs_succ seed h (l + 1)
    rw [show lvl (idS seed) seed h (l + 1) = nx (idS seed) l (lvl (idS seed) seed h l) ((lvl (idS seed) seed h l).length / 2) from rfl] at hvs hO
    have hol : (lvVs seed h (l + 1)).all V.one = true := by
      rw [List.all_eq_true]; intro x hx; obtain ⟨j, -, rfl⟩ := List.mem_map.1 hx; rfl
    have hvp := lvVs_pures seed h (l + 1)
    have hvl := lvVs_length seed h (l + 1)
    rw [hvs] at hO
    generalize lvl (idS seed) seed h l = L at *
    generalize lvVs seed h (l + 1) = Z at *
    unfold strsV
    repeat' (first
    | ((first | refine arun_go0 rfl fun K9 h9 => ?_ | refine arunD_goF rfl rfl fun K9 h9 => ?_ | refine arunD_goT rfl rfl fun K9 h9 => ?_ | (refine arun_go ?_ ?_; (focus (simp ; done)); intro K9 h9) | ((first | refine arunD_gF rfl ?_ ?_ | refine arunD_gT rfl ?_ ?_); (focus (simp ; done)); intro K9 h9)); simp (disch := (first | (simp; done) | omega | (simp; omega))) ; (try simp (disch := (first | omega | (simp; omega))) only [wrap_i64, wrap_u8, wrap_u32, wrap_u64, Int.tmod_eq_emod_of_nonneg, Int.tdiv_eq_ediv_of_nonneg]); (repeat (refine And.intro (by first | omega | (simp; first | done | omega) | assumption | (intro e9; have e8 := congrArg List.length e9; first | (simp at e8; done) | ((try simp only [List.length_map, List.length_append] at e8); rw [List.length_nil] at e8; omega))) ?_)); (first | refine h9 _ _ (arun_slots (by first | (dsimp only [sput, sset]; done) | rfl) ?_) | refine h9 _ _ (arunD_slots' (by first | (dsimp only [sput, sset]; done) | rfl) (by first | (dsimp only [List.tail]; done) | rfl) ?_)); clear h9 K9)
    | (refine arun_end ?_)
    | (refine arunD_end ?_)
    | (refine awp_seq fun K hK => ?_)
    | (refine awp_region ?_)
    | (refine hK _ _ ?_; clear hK K)
    | ((first | refine awp_region_draw' (m := 3) (by decide +kernel) [] (by kernel_rfl) (by decide +kernel) ?_); dsimp only [List.replicate, List.append_nil, List.cons_append, List.nil_append, List.length_cons, List.length_nil])
    | (refine awp_block ?_)
    | (refine awp_cond rfl (fun hcnd => ?_) (fun hcnd => ?_) <;> (try simp at hcnd) <;> (try contradiction) <;> (try (exfalso; omega)))
    | (refine awp_skip ?_)
    | (refine awp_exit ?_; simp only [athen_normal, athen_exit, athen_ret, ablock_self, ablock_ne, ablock_normal, ablock_ret, Nat.reduceBEq])
    | (refine awp_ret ?_; refine ret_go ?_)
    | (refine arun_no ?_ ?_; (focus (simp ; done)); refine arun_slots (by first | (dsimp only [sput, sset]; done) | rfl) ?_)
    | ((first | refine arunD_nF rfl ?_ ?_ | refine arunD_nT rfl ?_ ?_); (focus (simp ; done)); refine arunD_slots' (by first | (dsimp only [sput, sset]; done) | rfl) (by first | (dsimp only [List.tail]; done) | rfl) ?_)
    | (refine fall_go ?_)
    | (simp only [athen_normal, athen_exit, athen_ret, ablock_self, ablock_ne, ablock_normal, ablock_ret, Nat.reduceBEq])
    | (clear hK K; refine hK _ _ ?_; clear hK K)
    | (clear hK K; clear hK K; refine hK _ _ ?_; clear hK K)
    | (clear hK K; clear hK K; clear hK K; refine hK _ _ ?_; clear hK K)
    | (clear hK K; clear hK K; clear hK K; clear hK K; refine hK _ _ ?_; clear hK K)
    | (clear hK K; clear hK K; clear hK K; clear hK K; clear hK K; refine hK _ _ ?_; clear hK K))
    refine awp_countU (fun k => (some V.junk :: none :: none :: none :: none :: some V.junk :: none :: none :: some V.junk :: some V.junk :: some V.junk :: none :: some (V.osl 3 0 k 1) :: some (V.int .i64 ((2 * k : Nat) : Int)) :: some V.junk :: some V.junk :: some V.junk :: some V.junk :: some V.junk :: some V.junk :: some V.junk :: some V.junk :: some V.junk :: some V.junk :: some V.junk :: some V.junk :: some V.junk :: some V.junk :: some V.junk :: some V.junk :: some V.junk :: some V.junk :: some V.junk :: some V.junk :: some V.junk :: some V.junk :: some V.junk :: some V.junk :: some V.junk :: some V.junk :: some V.junk :: some V.junk :: some V.junk :: some V.junk :: some V.junk :: some V.junk :: some V.junk :: some V.junk :: some V.junk :: some V.junk :: some V.junk :: some V.junk :: some V.junk :: some V.junk :: some V.junk :: some V.junk :: some V.junk :: some V.junk :: some V.junk :: some V.junk :: some V.junk :: some V.junk :: some V.junk :: some V.junk :: some V.junk :: some V.junk :: some V.junk :: some V.junk :: some V.junk :: some V.junk :: some V.junk :: some V.junk :: some V.junk :: some V.junk :: some V.junk :: some V.junk :: some V.junk :: some V.junk :: some V.junk :: some V.junk :: some V.junk :: some V.junk :: some V.junk :: some V.junk :: some V.junk :: some V.junk :: some V.junk :: some V.junk :: some V.junk :: some V.junk :: some V.junk :: some V.junk :: some V.junk :: some V.junk :: some V.junk :: [])) (fun k => [.live [.str [], .str [], .nils], .live [.str seed, .str (idS seed), .osl 2 0 (l + 1) 1], .live Z, .live ((nx (idS seed) l L k).map V.str)]) (L.length / 2) ?_ fun k hk KL hL => ?_
    · dsimp only [ups_some, ups_none, ups_nil, ups_nil']
      exact Le.mk [some 0, some 1, some 2, none] (by simp) (rowsRen_of (by simp) (by simp [rowsOver, rowRen_live, hvp, nx])) (by simp)
    dsimp only [ups_some, ups_none, ups_nil, ups_nil']
    have e6 : List.take k (List.map V.str (nx (idS seed) l L k)) = List.map V.str (nx (idS seed) l L k) := List.take_of_length_le (by simp)
    rcases Nat.lt_or_ge k (L.length / 2) with hk | hk
    · have b1 : 2 * k < L.length := by omega
      have b2 : 2 * k + 1 < L.length := by omega
      have hn := nx_succ (idS seed) l L k
      rw [getD_get b1, getD_get b2] at hn
      have q1 := h16 _ (List.getElem_mem b1)
      have q2 := h16 _ (List.getElem_mem b2)
      have t1 : ((2 : Int) * (k : Int)).toNat = 2 * k := by omega
      have t2 : ((2 : Int) * (k : Int) + 1).toNat = 2 * k + 1 := by omega
      have t3 : ((2 : Int) * (k : Int)) / 2 = k := by omega
      have hps := rshort_call [[78], idS seed, b1S l, wbytes k, L[2 * k], L[2 * k + 1]] (by simp) (by simp; omega)
      rw [show shaT [[78], idS seed, b1S l, wbytes k, L[2 * k], L[2 * k + 1]].flatten = parS (idS seed) l k L[2 * k] L[2 * k + 1] by simp [parS]] at hps
      repeat' (first
    | ((first | refine arun_go0 rfl fun K9 h9 => ?_ | refine arunD_goF rfl rfl fun K9 h9 => ?_ | refine arunD_goT rfl rfl fun K9 h9 => ?_ | (refine arun_go ?_ ?_; (focus (simp [e6, t1, t2, t3]; done)); intro K9 h9) | ((first | refine arunD_gF rfl ?_ ?_ | refine arunD_gT rfl ?_ ?_); (focus (simp [e6, t1, t2, t3]; done)); intro K9 h9)); simp (disch := (first | (simp; done) | omega | (simp; omega))) [e6, t1, t2, t3]; (try simp (disch := (first | omega | (simp; omega))) only [wrap_i64, wrap_u8, wrap_u32, wrap_u64, Int.tmod_eq_emod_of_nonneg, Int.tdiv_eq_ediv_of_nonneg]); (first | refine acall_pure (rb4_call _) (by simp) ?_ | refine acall_pure (rb1_call _) (by simp) ?_ | refine acall_view hps ⟨view_row rfl (by simp) (by simp), trivial⟩ .str ?_ | skip); (repeat (refine And.intro (by first | omega | (simp; first | done | omega) | assumption | (intro e9; have e8 := congrArg List.length e9; first | (simp at e8; done) | ((try simp only [List.length_map, List.length_append] at e8); rw [List.length_nil] at e8; omega))) ?_)); (first | refine h9 _ _ (arun_slots (by first | (dsimp only [sput, sset]; done) | rfl) ?_) | refine h9 _ _ (arunD_slots' (by first | (dsimp only [sput, sset]; done) | rfl) (by first | (dsimp only [List.tail]; done) | rfl) ?_)); clear h9 K9)
    | (refine arun_end ?_)
    | (refine arunD_end ?_)
    | (refine awp_seq fun K hK => ?_)
    | (refine awp_region ?_)
    | (refine hK _ _ ?_; clear hK K)
    | ((first | refine awp_region_draw' (m := 3) (by decide +kernel) [] (by kernel_rfl) (by decide +kernel) ?_); dsimp only [List.replicate, List.append_nil, List.cons_append, List.nil_append, List.length_cons, List.length_nil])
    | (refine awp_block ?_)
    | (refine awp_cond rfl (fun hcnd => ?_) (fun hcnd => ?_) <;> (try simp at hcnd) <;> (try contradiction) <;> (try (exfalso; omega)))
    | (refine awp_skip ?_)
    | (refine awp_exit ?_; simp only [athen_normal, athen_exit, athen_ret, ablock_self, ablock_ne, ablock_normal, ablock_ret, Nat.reduceBEq])
    | (refine awp_ret ?_; refine ret_go ?_)
    | (refine arun_no ?_ ?_; (focus (simp [e6, t1, t2, t3]; done)); refine arun_slots (by first | (dsimp only [sput, sset]; done) | rfl) ?_)
    | ((first | refine arunD_nF rfl ?_ ?_ | refine arunD_nT rfl ?_ ?_); (focus (simp [e6, t1, t2, t3]; done)); refine arunD_slots' (by first | (dsimp only [sput, sset]; done) | rfl) (by first | (dsimp only [List.tail]; done) | rfl) ?_)
    | (refine fall_go ?_)
    | (simp only [athen_normal, athen_exit, athen_ret, ablock_self, ablock_ne, ablock_normal, ablock_ret, Nat.reduceBEq])
    | (clear hK K; refine hK _ _ ?_; clear hK K)
    | (clear hK K; clear hK K; refine hK _ _ ?_; clear hK K)
    | (clear hK K; clear hK K; clear hK K; refine hK _ _ ?_; clear hK K)
    | (clear hK K; clear hK K; clear hK K; clear hK K; refine hK _ _ ?_; clear hK K)
    | (clear hK K; clear hK K; clear hK K; clear hK K; clear hK K; refine hK _ _ ?_; clear hK K))
      refine hL _ _ hk ?_
      exact Le.mk [some 0, some 1, some 2, some 6] (by dsimp only [ups_some, ups_none, ups_nil, ups_nil']; simp; omega) (rowsRen_of (by simp) (by simp [rowsOver, rowRen_live, hvp, hn])) (by simp)
    obtain rfl : k = L.length / 2 := by omega
    refine awp_freeze' 3 rfl (by simp) (by simp [fz, e6]; rfl) (by simp [fzRow, fz, fz_map hvp]; rfl) ?_
    repeat' (first
    | ((first | refine arun_go0 rfl fun K9 h9 => ?_ | refine arunD_goF rfl rfl fun K9 h9 => ?_ | refine arunD_goT rfl rfl fun K9 h9 => ?_ | (refine arun_go ?_ ?_; (focus (simp [e5, hvl, hol]; done)); intro K9 h9) | ((first | refine arunD_gF rfl ?_ ?_ | refine arunD_gT rfl ?_ ?_); (focus (simp [e5, hvl, hol]; done)); intro K9 h9)); simp (disch := (first | (simp; done) | omega | (simp; omega))) [e5, hvl, hol]; (try simp (disch := (first | omega | (simp; omega))) only [wrap_i64, wrap_u8, wrap_u32, wrap_u64, Int.tmod_eq_emod_of_nonneg, Int.tdiv_eq_ediv_of_nonneg]); (repeat (refine And.intro (by first | omega | (simp; first | done | omega) | assumption | (intro e9; have e8 := congrArg List.length e9; first | (simp at e8; done) | ((try simp only [List.length_map, List.length_append] at e8); rw [List.length_nil] at e8; omega))) ?_)); (first | refine h9 _ _ (arun_slots (by first | (dsimp only [sput, sset]; done) | rfl) ?_) | refine h9 _ _ (arunD_slots' (by first | (dsimp only [sput, sset]; done) | rfl) (by first | (dsimp only [List.tail]; done) | rfl) ?_)); clear h9 K9)
    | (refine arun_end ?_)
    | (refine arunD_end ?_)
    | (refine awp_seq fun K hK => ?_)
    | (refine awp_region ?_)
    | (refine hK _ _ ?_; clear hK K)
    | ((first | refine awp_region_draw' (m := 3) (by decide +kernel) [] (by kernel_rfl) (by decide +kernel) ?_); dsimp only [List.replicate, List.append_nil, List.cons_append, List.nil_append, List.length_cons, List.length_nil])
    | (refine awp_block ?_)
    | (refine awp_cond rfl (fun hcnd => ?_) (fun hcnd => ?_) <;> (try simp at hcnd) <;> (try contradiction) <;> (try (exfalso; omega)))
    | (refine awp_skip ?_)
    | (refine awp_exit ?_; simp only [athen_normal, athen_exit, athen_ret, ablock_self, ablock_ne, ablock_normal, ablock_ret, Nat.reduceBEq])
    | (refine awp_ret ?_; refine ret_go ?_)
    | (refine arun_no ?_ ?_; (focus (simp [e5, hvl, hol]; done)); refine arun_slots (by first | (dsimp only [sput, sset]; done) | rfl) ?_)
    | ((first | refine arunD_nF rfl ?_ ?_ | refine arunD_nT rfl ?_ ?_); (focus (simp [e5, hvl, hol]; done)); refine arunD_slots' (by first | (dsimp only [sput, sset]; done) | rfl) (by first | (dsimp only [List.tail]; done) | rfl) ?_)
    | (refine fall_go ?_)
    | (simp only [athen_normal, athen_exit, athen_ret, ablock_self, ablock_ne, ablock_normal, ablock_ret, Nat.reduceBEq])
    | (clear hK K; refine hK _ _ ?_; clear hK K)
    | (clear hK K; clear hK K; refine hK _ _ ?_; clear hK K)
    | (clear hK K; clear hK K; clear hK K; refine hK _ _ ?_; clear hK K)
    | (clear hK K; clear hK K; clear hK K; clear hK K; refine hK _ _ ?_; clear hK K)
    | (clear hK K; clear hK K; clear hK K; clear hK K; clear hK K; refine hK _ _ ?_; clear hK K))
    refine hO _ _ hl ?_
    exact Le.mk [some 0, some 1, some 5] (by dsimp only [ups_some, ups_none, ups_nil, ups_nil']; simp [strsV]) (rowsRen_of (by simp) (by simp [rowsOver, rowRen_live, hvp, strsV])) (by simp)
  obtain rfl : l = h := by omega
  refine awp_freeze' 2 rfl (lvVs_pures seed l (l + 1)) (by simp [fz, e5]; rfl) (by simp [fzRow, fz, e5]; rfl) ?_
  repeat' (first
    | ((first | refine arun_go0 rfl fun K9 h9 => ?_ | refine arunD_goF rfl rfl fun K9 h9 => ?_ | refine arunD_goT rfl rfl fun K9 h9 => ?_ | (refine arun_go ?_ ?_; (focus (simp ; done)); intro K9 h9) | ((first | refine arunD_gF rfl ?_ ?_ | refine arunD_gT rfl ?_ ?_); (focus (simp ; done)); intro K9 h9)); simp (disch := (first | (simp; done) | omega | (simp; omega))) ; (try simp (disch := (first | omega | (simp; omega))) only [wrap_i64, wrap_u8, wrap_u32, wrap_u64, Int.tmod_eq_emod_of_nonneg, Int.tdiv_eq_ediv_of_nonneg]); (repeat (refine And.intro (by first | omega | (simp; first | done | omega) | assumption | (intro e9; have e8 := congrArg List.length e9; first | (simp at e8; done) | ((try simp only [List.length_map, List.length_append] at e8); rw [List.length_nil] at e8; omega))) ?_)); (first | refine h9 _ _ (arun_slots (by first | (dsimp only [sput, sset]; done) | rfl) ?_) | refine h9 _ _ (arunD_slots' (by first | (dsimp only [sput, sset]; done) | rfl) (by first | (dsimp only [List.tail]; done) | rfl) ?_)); clear h9 K9)
    | (refine arun_end ?_)
    | (refine arunD_end ?_)
    | (refine awp_seq fun K hK => ?_)
    | (refine awp_region ?_)
    | (refine hK _ _ ?_; clear hK K)
    | ((first | refine awp_region_draw' (m := 3) (by decide +kernel) [] (by kernel_rfl) (by decide +kernel) ?_); dsimp only [List.replicate, List.append_nil, List.cons_append, List.nil_append, List.length_cons, List.length_nil])
    | (refine awp_block ?_)
    | (refine awp_cond rfl (fun hcnd => ?_) (fun hcnd => ?_) <;> (try simp at hcnd) <;> (try contradiction) <;> (try (exfalso; omega)))
    | (refine awp_skip ?_)
    | (refine awp_exit ?_; simp only [athen_normal, athen_exit, athen_ret, ablock_self, ablock_ne, ablock_normal, ablock_ret, Nat.reduceBEq])
    | (refine awp_ret ?_; refine ret_go ?_)
    | (refine arun_no ?_ ?_; (focus (simp ; done)); refine arun_slots (by first | (dsimp only [sput, sset]; done) | rfl) ?_)
    | ((first | refine arunD_nF rfl ?_ ?_ | refine arunD_nT rfl ?_ ?_); (focus (simp ; done)); refine arunD_slots' (by first | (dsimp only [sput, sset]; done) | rfl) (by first | (dsimp only [List.tail]; done) | rfl) ?_)
    | (refine fall_go ?_)
    | (simp only [athen_normal, athen_exit, athen_ret, ablock_self, ablock_ne, ablock_normal, ablock_ret, Nat.reduceBEq])
    | (clear hK K; refine hK _ _ ?_; clear hK K)
    | (clear hK K; clear hK K; refine hK _ _ ?_; clear hK K)
    | (clear hK K; clear hK K; clear hK K; refine hK _ _ ?_; clear hK K)
    | (clear hK K; clear hK K; clear hK K; clear hK K; refine hK _ _ ?_; clear hK K)
    | (clear hK K; clear hK K; clear hK K; clear hK K; clear hK K; refine hK _ _ ?_; clear hK K))
  simp [rtV]
  exact .pure (by simp)
  · simp
end Go.Proofs.Ythcdofbmmibgjaa
namespace Go.Proofs.Ythcdofbmmibgjaa
open Go.VS
set_option linter.all false
attribute [local irreducible] arun arunD AWp aend shaS shaT

theorem lvVs_get' (seed : List UInt8) (h k l : Nat) (hl : l < k) : (lvVs seed h k)[l]'(by simpa using hl) = .sl (lvl (idS seed) seed h l).length ((lvl (idS seed) seed h l).map V.str) := by
  have := lvVs_get seed h k l hl
  rw [List.getElem?_eq_getElem (by simpa using hl)] at this
  exact Option.some.inj this
theorem lvVs_top (seed : List UInt8) (h : Nat) : (lvVs seed h (h + 1))[h]'(by simp) = .sl 1 [.str (rootS (idS seed) seed h)] := by
  rw [lvVs_get' seed h (h + 1) h (by omega), lvl_top]; rfl

theorem keyOf_call (seed : List UInt8) (h : Nat) (hh : h ≤ 8) : PCall Try.prog 25 [rtV seed h] (keyV h (idS seed) (rootS (idS seed) seed h)) := by
  refine pcall_body Try.func25 rfl Try.call25 ?_ ?_
  rotate_left 1
  refine awp_slots (s' := [(rtV seed h : V), .junk, .junk, .junk, .junk, .junk, .junk, .junk, .junk, .junk, .junk, .junk, .junk, .junk, .junk, .junk, .junk, .junk, .junk]) rfl ?_
  have hg := lvVs_top seed h
  unfold rtV
  repeat' (first
    | ((first | refine arun_go0 rfl fun K9 h9 => ?_ | refine arunD_goF rfl rfl fun K9 h9 => ?_ | refine arunD_goT rfl rfl fun K9 h9 => ?_); simp (disch := (first | (simp; done) | omega | (simp; omega))) [hg]; (try simp (disch := (first | omega | (simp; omega))) only [wrap_i64, wrap_u8, wrap_u32, wrap_u64, Int.tmod_eq_emod_of_nonneg, Int.tdiv_eq_ediv_of_nonneg]); (repeat (refine And.intro (by first | omega | (simp; first | done | omega) | assumption | (intro e9; have e8 := congrArg List.length e9; first | (simp at e8; done) | ((try simp only [List.length_map, List.length_append] at e8); rw [List.length_nil] at e8; omega))) ?_)); (first | refine h9 _ _ (arun_slots (by first | (dsimp only [sput, sset]; done) | rfl) ?_) | refine h9 _ _ (arunD_slots' (by first | (dsimp only [sput, sset]; done) | rfl) (by first | (dsimp only [List.tail]; done) | rfl) ?_)); clear h9 K9)
    | (refine arun_end ?_)
    | (refine arunD_end ?_)
    | (refine awp_seq fun K hK => ?_)
    | (refine awp_region ?_)
    | (refine hK _ _ ?_; clear hK K)
    | ((first | refine awp_region_draw' (m := 0) (by decide +kernel) [] (by kernel_rfl) (by decide +kernel) ?_); dsimp only [List.replicate, List.append_nil, List.cons_append, List.nil_append, List.length_cons, List.length_nil])
    | (refine awp_ret ?_; refine ret_go ?_)
    | (refine fall_go ?_)
    | (simp only [athen_normal, athen_exit, athen_ret, ablock_self, ablock_ne, ablock_normal, ablock_ret, Nat.reduceBEq])
    | (clear hK K; refine hK _ _ ?_; clear hK K)
    | (clear hK K; clear hK K; refine hK _ _ ?_; clear hK K)
    | (clear hK K; clear hK K; clear hK K; refine hK _ _ ?_; clear hK K)
    | (clear hK K; clear hK K; clear hK K; clear hK K; refine hK _ _ ?_; clear hK K)
    | (clear hK K; clear hK K; clear hK K; clear hK K; clear hK K; refine hK _ _ ?_; clear hK K))
  · simp [keyV]
    exact .pure (by simp)
  · simp

theorem tree_call (k : Int) (h : Nat) (hh : h ≤ 8) : PCall Try.prog 26 [.int .i64 k, .int .i64 h] (rtV (mseedS k) h) := by
  refine pcall_body Try.func26 rfl Try.call26 ?_ ?_
  rotate_left 1
  refine awp_slots (s' := [(.int .i64 k : V), (.int .i64 h : V), .junk, .junk, .junk, .junk, .junk, .junk, .junk, .junk, .junk, .junk, .junk, .junk, .junk]) rfl ?_
  have hrg := rgenerate_call (mseedS k) h (by simp) hh
  unfold rtV at *
  repeat' (first
    | (refine arun_go0 rfl fun K9 h9 => ?_; simp (disch := (first | (simp; done) | omega | (simp; omega))) ; (try simp (disch := (first | omega | (simp; omega))) only [wrap_i64, wrap_u8, wrap_u32, wrap_u64, Int.tmod_eq_emod_of_nonneg, Int.tdiv_eq_ediv_of_nonneg]); (first | refine acall_pure (mseed_call _) (by simp) ?_ | refine acall_pure (hrg) (by simp) ?_ | skip); (repeat (refine And.intro (by first | omega | (simp; first | done | omega) | assumption | (intro e9; have e8 := congrArg List.length e9; first | (simp at e8; done) | ((try simp only [List.length_map, List.length_append] at e8); rw [List.length_nil] at e8; omega))) ?_)); (first | refine h9 _ _ (arun_slots (by first | (dsimp only [sput, sset]; done) | rfl) ?_)); clear h9 K9)
    | (refine arun_end ?_)
    | (refine awp_seq fun K hK => ?_)
    | (refine awp_region ?_)
    | (refine hK _ _ ?_; clear hK K)
    | (refine awp_ret ?_; refine ret_go ?_)
    | (refine fall_go ?_)
    | (simp only [athen_normal, athen_exit, athen_ret, ablock_self, ablock_ne, ablock_normal, ablock_ret, Nat.reduceBEq])
    | (clear hK K; refine hK _ _ ?_; clear hK K)
    | (clear hK K; clear hK K; refine hK _ _ ?_; clear hK K)
    | (clear hK K; clear hK K; clear hK K; refine hK _ _ ?_; clear hK K)
    | (clear hK K; clear hK K; clear hK K; clear hK K; refine hK _ _ ?_; clear hK K)
    | (clear hK K; clear hK K; clear hK K; clear hK K; clear hK K; refine hK _ _ ?_; clear hK K))
  · simp
    exact .pure (by simp)
  · simp

set_option maxRecDepth 100000 in
set_option maxHeartbeats 4000000 in
theorem signTree_call (seed : List UInt8) (h : Nat) (leaf : Nat) (m : List UInt8) (hs : seed.length = 32) (hh : h ≤ 8) (hf : leaf < 2 ^ h) (hm : m.length ≤ 1000) :
    PCall Try.prog 32 [rtV seed h, .int .i64 leaf, .str m] (.tup [.str (sgnS seed h leaf m), .int .i64 0]) := by
  refine pcall_body Try.func32 rfl Try.call32 ?_ ?_
  rotate_left 1
  refine awp_slots (s' := ((rtV seed h : V) :: (.int .i64 leaf : V) :: (.str m : V) :: V.junk :: V.junk :: V.junk :: V.junk :: V.junk :: V.junk :: V.junk :: V.junk :: V.junk :: V.junk :: V.junk :: V.junk :: V.junk :: V.junk :: V.junk :: V.junk :: V.junk :: V.junk :: V.junk :: V.junk :: V.junk :: V.junk :: V.junk :: V.junk :: V.junk :: V.junk :: V.junk :: V.junk :: V.junk :: V.junk :: V.junk :: V.junk :: V.junk :: V.junk :: V.junk :: V.junk :: V.junk :: V.junk :: V.junk :: V.junk :: V.junk :: V.junk :: V.junk :: V.junk :: V.junk :: V.junk :: V.junk :: V.junk :: V.junk :: V.junk :: V.junk :: V.junk :: V.junk :: V.junk :: V.junk :: V.junk :: V.junk :: V.junk :: V.junk :: V.junk :: V.junk :: V.junk :: V.junk :: V.junk :: V.junk :: V.junk :: [])) rfl ?_
  have h256 := pow_le_256 hh
  have hv := sigV_ok (idS seed) seed leaf (digM (idS seed) (rootS (idS seed) seed h) leaf m) (idS_length seed) hs (by omega) (digM_length _ _ _ _)
  have hsg := rsign_call (idS seed) seed leaf (digM (idS seed) (rootS (idS seed) seed h) leaf m) (by simp) (by omega) (by simp)
  rw [hv] at hsg
  have hvl := vF_length (idS seed) seed leaf (digM (idS seed) (rootS (idS seed) seed h) leaf m) 35
  have hS : sgnS seed h leaf m = wbytes leaf ++ vF (idS seed) seed leaf (digM (idS seed) (rootS (idS seed) seed h) leaf m) 35 ++ auth (idS seed) seed h leaf h := rfl
  obtain ⟨ov, hov⟩ : ∃ ov, vF (idS seed) seed leaf (digM (idS seed) (rootS (idS seed) seed h) leaf m) 35 = ov := ⟨_, rfl⟩
  rw [hov] at hsg hvl hS
  rw [hS]
  clear hv hov hS
  have hxx : ∀ k, k < h → xr (leaf / 2 ^ k) < 2 ^ (h - k) := fun k hk => xr_lt hk hf
  have hq : ∀ k, leaf / 2 ^ k < 256 := fun k => Nat.lt_of_le_of_lt (Nat.div_le_self _ _) (by omega)
  have hg0 := lvVs_get' seed h (h + 1) 0 (by omega)
  have hl0 := lvl_length (idS seed) seed h 0 (by omega)
  rw [hl0, Nat.sub_zero] at hg0
  have hko := keyOf_call seed h hh
  have hsh := rshort_call [[77], idS seed, rootS (idS seed) seed h, wbytes leaf, m] (by simp) (by simp; omega)
  rw [show shaT [[77], idS seed, rootS (idS seed) seed h, wbytes leaf, m].flatten = digM (idS seed) (rootS (idS seed) seed h) leaf m by simp [digM]] at hsh
  have hfs : leaf < 2 ^ h := hf
  obtain ⟨p, hp⟩ : ∃ p, 2 ^ h = p := ⟨_, rfl⟩
  rw [hp] at hg0 h256 hf
  unfold rtV keyV at *
  repeat' (first
    | ((first | refine arun_go0 rfl fun K9 h9 => ?_ | refine arunD_goF rfl rfl fun K9 h9 => ?_ | refine arunD_goT rfl rfl fun K9 h9 => ?_ | (refine arun_go ?_ ?_; (focus (simp [hg0]; done)); intro K9 h9) | ((first | refine arunD_gF rfl ?_ ?_ | refine arunD_gT rfl ?_ ?_); (focus (simp [hg0]; done)); intro K9 h9)); simp (disch := (first | (simp; done) | omega | (simp; omega))) [hg0]; (try simp (disch := (first | omega | (simp; omega))) only [wrap_i64, wrap_u8, wrap_u32, wrap_u64, Int.tmod_eq_emod_of_nonneg, Int.tdiv_eq_ediv_of_nonneg]); (first | refine acall_pure (hko) (by simp) ?_ | refine acall_pure (rb4_call _) (by simp) ?_ | refine acall_view hsh ⟨view_row rfl (by simp) (by simp), trivial⟩ .str ?_ | refine acall_pure (hsg) (by simp) ?_ | skip); (repeat (refine And.intro (by first | omega | (simp; first | done | omega) | assumption | (intro e9; have e8 := congrArg List.length e9; first | (simp at e8; done) | ((try simp only [List.length_map, List.length_append] at e8); rw [List.length_nil] at e8; omega))) ?_)); (first | refine h9 _ _ (arun_slots (by first | (dsimp only [sput, sset]; done) | rfl) ?_) | refine h9 _ _ (arunD_slots' (by first | (dsimp only [sput, sset]; done) | rfl) (by first | (dsimp only [List.tail]; done) | rfl) ?_)); clear h9 K9)
    | (refine arun_end ?_)
    | (refine arunD_end ?_)
    | (refine awp_seq fun K hK => ?_)
    | (refine awp_region ?_)
    | (refine hK _ _ ?_; clear hK K)
    | ((first | refine awp_region_draw' (m := 1) (by decide +kernel) [] (by kernel_rfl) (by decide +kernel) ?_); dsimp only [List.replicate, List.append_nil, List.cons_append, List.nil_append, List.length_cons, List.length_nil])
    | (refine awp_block ?_)
    | (refine awp_cond rfl (fun hcnd => ?_) (fun hcnd => ?_) <;> (try simp at hcnd) <;> (try contradiction) <;> (try (exfalso; omega)))
    | (refine awp_skip ?_)
    | (refine awp_exit ?_; simp only [athen_normal, athen_exit, athen_ret, ablock_self, ablock_ne, ablock_normal, ablock_ret, Nat.reduceBEq])
    | (refine awp_ret ?_; refine ret_go ?_)
    | (refine arun_no ?_ ?_; (focus (simp [hg0]; done)); refine arun_slots (by first | (dsimp only [sput, sset]; done) | rfl) ?_)
    | ((first | refine arunD_nF rfl ?_ ?_ | refine arunD_nT rfl ?_ ?_); (focus (simp [hg0]; done)); refine arunD_slots' (by first | (dsimp only [sput, sset]; done) | rfl) (by first | (dsimp only [List.tail]; done) | rfl) ?_)
    | (refine fall_go ?_)
    | (simp only [athen_normal, athen_exit, athen_ret, ablock_self, ablock_ne, ablock_normal, ablock_ret, Nat.reduceBEq])
    | (clear hK K; refine hK _ _ ?_; clear hK K)
    | (clear hK K; clear hK K; refine hK _ _ ?_; clear hK K)
    | (clear hK K; clear hK K; clear hK K; refine hK _ _ ?_; clear hK K)
    | (clear hK K; clear hK K; clear hK K; clear hK K; refine hK _ _ ?_; clear hK K)
    | (clear hK K; clear hK K; clear hK K; clear hK K; clear hK K; refine hK _ _ ?_; clear hK K))
  refine awp_countU (fun k => (some V.junk :: some V.junk :: some V.junk :: none :: none :: none :: some V.junk :: some V.junk :: none :: some (V.str (wbytes leaf ++ ov ++ auth (idS seed) seed h leaf k)) :: some V.junk :: some (V.int .i64 k) :: some (V.int .i64 ((leaf / 2 ^ k : Nat) : Int)) :: some V.junk :: some V.junk :: some V.junk :: some V.junk :: some V.junk :: some V.junk :: some V.junk :: some V.junk :: some V.junk :: some V.junk :: some V.junk :: some V.junk :: some V.junk :: some V.junk :: some V.junk :: some V.junk :: some V.junk :: some V.junk :: some V.junk :: some V.junk :: some V.junk :: some V.junk :: some V.junk :: some V.junk :: some V.junk :: some V.junk :: some V.junk :: some V.junk :: some V.junk :: some V.junk :: some V.junk :: some V.junk :: some V.junk :: some V.junk :: some V.junk :: some V.junk :: some V.junk :: some V.junk :: some V.junk :: some V.junk :: some V.junk :: some V.junk :: some V.junk :: some V.junk :: some V.junk :: some V.junk :: some V.junk :: some V.junk :: some V.junk :: some V.junk :: some V.junk :: some V.junk :: some V.junk :: some V.junk :: some V.junk :: some V.junk :: [])) (fun k => [.live [.str seed, .str (idS seed), .sl (h + 1) (lvVs seed h (h + 1))], .live [.int .i64 h, .str (idS seed), .str (rootS (idS seed) seed h)]]) h ?_ fun k hk KL hL => ?_
  · dsimp only [ups_some, ups_none, ups_nil, ups_nil']
    exact Le.mk [some 0, some 1] (by simp [auth]) (rowsRen_of (by simp) (by simp [rowsOver])) (by simp)
  dsimp only [ups_some, ups_none, ups_nil, ups_nil']
  have hal := auth_length (idS seed) seed h leaf hfs k hk
  rcases Nat.lt_or_ge k h with hk | hk
  · have hlg := lvVs_get' seed h (h + 1) k (by omega)
    have hll := lvl_length (idS seed) seed h k (by omega)
    have h16 := lvl_16 (idS seed) seed h k
    have hx1 := hxx k hk
    have hb := xr_bits (leaf / 2 ^ k) (hq k)
    have hqk := hq k
    have ha := auth_succ (idS seed) seed h leaf k
    have hdd : leaf / 2 ^ (k + 1) = leaf / 2 ^ k / 2 := by rw [Nat.pow_succ, Nat.div_div_eq_div_mul]
    unfold node at ha
    rw [hdd, ha] at hL
    generalize lvl (idS seed) seed h k = L at *
    generalize leaf / 2 ^ k = q at *
    have b1 : xr q < L.length := by omega
    rw [getD_get b1] at hL
    have q1 := h16 _ (List.getElem_mem b1)
    generalize xr q = y at *
    repeat' (first
    | ((first | refine arun_go0 rfl fun K9 h9 => ?_ | refine arunD_goF rfl rfl fun K9 h9 => ?_ | refine arunD_goT rfl rfl fun K9 h9 => ?_ | (refine arun_go ?_ ?_; (focus (simp [hlg, hb]; done)); intro K9 h9) | ((first | refine arunD_gF rfl ?_ ?_ | refine arunD_gT rfl ?_ ?_); (focus (simp [hlg, hb]; done)); intro K9 h9)); simp (disch := (first | (simp; done) | omega | (simp; omega))) [hlg, hb]; (try simp (disch := (first | omega | (simp; omega))) only [wrap_i64, wrap_u8, wrap_u32, wrap_u64, Int.tmod_eq_emod_of_nonneg, Int.tdiv_eq_ediv_of_nonneg]); (repeat (refine And.intro (by first | omega | (simp; first | done | omega) | assumption | (intro e9; have e8 := congrArg List.length e9; first | (simp at e8; done) | ((try simp only [List.length_map, List.length_append] at e8); rw [List.length_nil] at e8; omega))) ?_)); (first | refine h9 _ _ (arun_slots (by first | (dsimp only [sput, sset]; done) | rfl) ?_) | refine h9 _ _ (arunD_slots' (by first | (dsimp only [sput, sset]; done) | rfl) (by first | (dsimp only [List.tail]; done) | rfl) ?_)); clear h9 K9)
    | (refine arun_end ?_)
    | (refine arunD_end ?_)
    | (refine awp_seq fun K hK => ?_)
    | (refine awp_region ?_)
    | (refine hK _ _ ?_; clear hK K)
    | ((first | refine awp_region_draw' (m := 1) (by decide +kernel) [] (by kernel_rfl) (by decide +kernel) ?_); dsimp only [List.replicate, List.append_nil, List.cons_append, List.nil_append, List.length_cons, List.length_nil])
    | (refine awp_block ?_)
    | (refine awp_cond rfl (fun hcnd => ?_) (fun hcnd => ?_) <;> (try simp at hcnd) <;> (try contradiction) <;> (try (exfalso; omega)))
    | (refine awp_skip ?_)
    | (refine awp_exit ?_; simp only [athen_normal, athen_exit, athen_ret, ablock_self, ablock_ne, ablock_normal, ablock_ret, Nat.reduceBEq])
    | (refine awp_ret ?_; refine ret_go ?_)
    | (refine arun_no ?_ ?_; (focus (simp [hlg, hb]; done)); refine arun_slots (by first | (dsimp only [sput, sset]; done) | rfl) ?_)
    | ((first | refine arunD_nF rfl ?_ ?_ | refine arunD_nT rfl ?_ ?_); (focus (simp [hlg, hb]; done)); refine arunD_slots' (by first | (dsimp only [sput, sset]; done) | rfl) (by first | (dsimp only [List.tail]; done) | rfl) ?_)
    | (refine fall_go ?_)
    | (simp only [athen_normal, athen_exit, athen_ret, ablock_self, ablock_ne, ablock_normal, ablock_ret, Nat.reduceBEq])
    | (clear hK K; refine hK _ _ ?_; clear hK K)
    | (clear hK K; clear hK K; refine hK _ _ ?_; clear hK K)
    | (clear hK K; clear hK K; clear hK K; refine hK _ _ ?_; clear hK K)
    | (clear hK K; clear hK K; clear hK K; clear hK K; refine hK _ _ ?_; clear hK K)
    | (clear hK K; clear hK K; clear hK K; clear hK K; clear hK K; refine hK _ _ ?_; clear hK K))
    refine hL _ _ hk ?_
    exact Le.mk [some 0, some 1] (by dsimp only [ups_some, ups_none, ups_nil, ups_nil']; simp) (rowsRen_of (by simp) (by simp [rowsOver])) (by simp)
  obtain rfl : k = h := by omega
  repeat' (first
    | ((first | refine arun_go0 rfl fun K9 h9 => ?_ | refine arunD_goF rfl rfl fun K9 h9 => ?_ | refine arunD_goT rfl rfl fun K9 h9 => ?_ | (refine arun_go ?_ ?_; (focus (simp ; done)); intro K9 h9) | ((first | refine arunD_gF rfl ?_ ?_ | refine arunD_gT rfl ?_ ?_); (focus (simp ; done)); intro K9 h9)); simp (disch := (first | (simp; done) | omega | (simp; omega))) ; (try simp (disch := (first | omega | (simp; omega))) only [wrap_i64, wrap_u8, wrap_u32, wrap_u64, Int.tmod_eq_emod_of_nonneg, Int.tdiv_eq_ediv_of_nonneg]); (repeat (refine And.intro (by first | omega | (simp; first | done | omega) | assumption | (intro e9; have e8 := congrArg List.length e9; first | (simp at e8; done) | ((try simp only [List.length_map, List.length_append] at e8); rw [List.length_nil] at e8; omega))) ?_)); (first | refine h9 _ _ (arun_slots (by first | (dsimp only [sput, sset]; done) | rfl) ?_) | refine h9 _ _ (arunD_slots' (by first | (dsimp only [sput, sset]; done) | rfl) (by first | (dsimp only [List.tail]; done) | rfl) ?_)); clear h9 K9)
    | (refine arun_end ?_)
    | (refine arunD_end ?_)
    | (refine awp_seq fun K hK => ?_)
    | (refine awp_region ?_)
    | (refine hK _ _ ?_; clear hK K)
    | ((first | refine awp_region_draw' (m := 1) (by decide +kernel) [] (by kernel_rfl) (by decide +kernel) ?_); dsimp only [List.replicate, List.append_nil, List.cons_append, List.nil_append, List.length_cons, List.length_nil])
    | (refine awp_block ?_)
    | (refine awp_cond rfl (fun hcnd => ?_) (fun hcnd => ?_) <;> (try simp at hcnd) <;> (try contradiction) <;> (try (exfalso; omega)))
    | (refine awp_skip ?_)
    | (refine awp_exit ?_; simp only [athen_normal, athen_exit, athen_ret, ablock_self, ablock_ne, ablock_normal, ablock_ret, Nat.reduceBEq])
    | (refine awp_ret ?_; refine ret_go ?_)
    | (refine arun_no ?_ ?_; (focus (simp ; done)); refine arun_slots (by first | (dsimp only [sput, sset]; done) | rfl) ?_)
    | ((first | refine arunD_nF rfl ?_ ?_ | refine arunD_nT rfl ?_ ?_); (focus (simp ; done)); refine arunD_slots' (by first | (dsimp only [sput, sset]; done) | rfl) (by first | (dsimp only [List.tail]; done) | rfl) ?_)
    | (refine fall_go ?_)
    | (simp only [athen_normal, athen_exit, athen_ret, ablock_self, ablock_ne, ablock_normal, ablock_ret, Nat.reduceBEq])
    | (clear hK K; refine hK _ _ ?_; clear hK K)
    | (clear hK K; clear hK K; refine hK _ _ ?_; clear hK K)
    | (clear hK K; clear hK K; clear hK K; refine hK _ _ ?_; clear hK K)
    | (clear hK K; clear hK K; clear hK K; clear hK K; refine hK _ _ ?_; clear hK K)
    | (clear hK K; clear hK K; clear hK K; clear hK K; clear hK K; refine hK _ _ ?_; clear hK K))
  simp
  exact .pure (by simp)
  · simp

theorem save_call (seed : List UInt8) (h n : Int) (hs : seed.length ≤ 1000) : PCall Try.prog 16 [.str seed, .int .i64 h, .int .i64 n] (.str ([75, 69, 89, 49] ++ seed ++ b1S h ++ wbytes n)) := by
  refine pcall_body Try.func16 rfl Try.call16 ?_ ?_
  rotate_left 1
  refine awp_slots (s' := [(.str seed : V), (.int .i64 h : V), (.int .i64 n : V), .junk, .junk, .junk, .junk, .junk, .junk, .junk, .junk, .junk, .junk, .junk, .junk]) rfl ?_
  repeat' (first
    | (refine arun_go0 rfl fun K9 h9 => ?_; simp (disch := (first | (simp; done) | omega | (simp; omega))) ; (try simp (disch := (first | omega | (simp; omega))) only [wrap_i64, wrap_u8, wrap_u32, wrap_u64, Int.tmod_eq_emod_of_nonneg, Int.tdiv_eq_ediv_of_nonneg]); (first | refine acall_pure (rb4_call _) (by simp) ?_ | refine acall_pure (rb1_call _) (by simp) ?_ | skip); (repeat (refine And.intro (by first | omega | (simp; first | done | omega) | assumption | (intro e9; have e8 := congrArg List.length e9; first | (simp at e8; done) | ((try simp only [List.length_map, List.length_append] at e8); rw [List.length_nil] at e8; omega))) ?_)); (first | refine h9 _ _ (arun_slots (by first | (dsimp only [sput, sset]; done) | rfl) ?_)); clear h9 K9)
    | (refine arun_end ?_)
    | (refine awp_seq fun K hK => ?_)
    | (refine awp_region ?_)
    | (refine hK _ _ ?_; clear hK K)
    | (refine awp_ret ?_; refine ret_go ?_)
    | (refine fall_go ?_)
    | (simp only [athen_normal, athen_exit, athen_ret, ablock_self, ablock_ne, ablock_normal, ablock_ret, Nat.reduceBEq])
    | (clear hK K; refine hK _ _ ?_; clear hK K)
    | (clear hK K; clear hK K; refine hK _ _ ?_; clear hK K)
    | (clear hK K; clear hK K; clear hK K; refine hK _ _ ?_; clear hK K)
    | (clear hK K; clear hK K; clear hK K; clear hK K; refine hK _ _ ?_; clear hK K)
    | (clear hK K; clear hK K; clear hK K; clear hK K; clear hK K; refine hK _ _ ?_; clear hK K))
  · simp
    exact .pure .str
  · exact .str
end Go.Proofs.Ythcdofbmmibgjaa
