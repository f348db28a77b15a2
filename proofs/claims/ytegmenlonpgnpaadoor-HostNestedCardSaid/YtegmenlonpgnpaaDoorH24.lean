/-
  HOST: bits of addresses.
  Conditions: none.
-/
import Derived.Test.YtegmenlonpgnpaaDoorH4
namespace Go.Proofs.YtegmenlonpgnpaaDoor
open Go.VS Go.Hst
set_option linter.all false
attribute [local irreducible] arun arunD arunU AWp aend

def bitB (m : List UInt8) (i : Nat) : Bool := (m.getD (i / 8) 0).toNat / 2 ^ (7 - i % 8) % 2 == 1
theorem and1 : ∀ x, x < 256 → bits .and .u8 ((x : Nat) : Int) 1 = ((x % 2 : Nat) : Int) := by decide +kernel

theorem bit_call (m : List UInt8) (i : Nat) (hi : i < 8 * m.length) (hm : m.length ≤ 1000000) : PCall Tryd.prog 54 [.str m, .int .i64 i] (.bool (bitB m i)) := by
  refine pcall_body Tryd.func54 rfl Tryd.call54 ?_ ?_
  rotate_left 1
  refine awp_slots (s' := [(.str m : V), (.int .i64 i : V), .junk, .junk, .junk, .junk, .junk, .junk, .junk, .junk, .junk, .junk, .junk, .junk, .junk, .junk]) rfl ?_
  have hq : i / 8 < m.length := by omega
  have e1 : ((i : Int) / 8).toNat = i / 8 := by omega
  obtain ⟨r, hr⟩ : ∃ r, i % 8 = r := ⟨_, rfl⟩
  have hr8 : r < 8 := by omega
  have e2 : (i : Int) % 8 = r := by omega
  have e3 : ((7 : Int) - r).toNat = 7 - r := by omega
  have e4 : min (7 - r) 8 = 7 - r := by omega
  obtain ⟨c, hc⟩ : ∃ c, m[i / 8] = c := ⟨_, rfl⟩
  have hc8 : c.toNat < 256 := UInt8.toNat_lt _
  have hb : bitB m i = (c.toNat / 2 ^ (7 - r) % 2 == 1) := by
    rw [bitB, hr, List.getD_eq_getElem?_getD, List.getElem?_eq_getElem hq, hc]; rfl
  rw [hb]
  have hx : c.toNat / 2 ^ (7 - r) < 256 := Nat.lt_of_le_of_lt (Nat.div_le_self _ _) hc8
  have ha := and1 _ hx
  have hv : (bits .and .u8 ((c.toNat : Int) / 2 ^ (7 - r)) 1 == 1) = (c.toNat / 2 ^ (7 - r) % 2 == 1) := by
    have : (c.toNat : Int) / 2 ^ (7 - r) = ((c.toNat / 2 ^ (7 - r) : Nat) : Int) := by simp
    rw [this, ha]
    generalize c.toNat / 2 ^ (7 - r) % 2 = y
    rw [Bool.eq_iff_iff]; simp; omega
  repeat' (first
    | (refine arunU_go0 rfl fun K9 h9 => ?_; simp (disch := (first | (simp; done) | omega | (simp; omega))) [e1, e2, e3, e4, hc]; (try simp (disch := (first | omega | (simp; omega))) only [wrap_i64, wrap_u8, wrap_u32, wrap_u64, Int.tmod_eq_emod_of_nonneg, Int.tdiv_eq_ediv_of_nonneg]); (repeat (refine And.intro (by first | omega | (simp; first | done | omega) | assumption | (intro e9; have e8 := congrArg List.length e9; first | (simp at e8; done) | ((try simp only [List.length_map, List.length_append] at e8); rw [List.length_nil] at e8; omega))) ?_)); (first | refine h9 _ _ (arunU_slots (by first | (dsimp only [sput, sset]; done) | rfl) ?_)); clear h9 K9)
    | (refine arunU_end ?_)
    | (refine awp_seq fun K hK => ?_)
    | (refine awp_regionU ?_)
    | (refine hK _ _ ?_; clear hK K)
    | (refine awp_ret ?_; refine ret_go ?_)
    | (refine fall_go ?_)
    | (simp only [athen_normal, athen_exit, athen_ret, ablock_self, ablock_ne, ablock_normal, ablock_ret, Nat.reduceBEq])
    | (clear hK K; refine hK _ _ ?_; clear hK K)
    | (clear hK K; clear hK K; refine hK _ _ ?_; clear hK K)
    | (clear hK K; clear hK K; clear hK K; refine hK _ _ ?_; clear hK K)
    | (clear hK K; clear hK K; clear hK K; clear hK K; refine hK _ _ ?_; clear hK K)
    | (clear hK K; clear hK K; clear hK K; clear hK K; clear hK K; refine hK _ _ ?_; clear hK K))
  rw [← hv]
  exact .pure .bool
  · exact .bool

def anyZ (m : List UInt8) (i : Nat) : Bool := (List.range i).any fun j => !bitB m j
def okR (a m : List UInt8) (i : Nat) : Bool := if bitB m i = true then !anyZ m i else !bitB a i
def rngH (b : List UInt8) (h : Nat) : Bool := (List.range (8 * h)).all (okR (b.take h) (b.drop h))
def rngB (b : List UInt8) : Bool := (decide (b.length = 8) && rngH b 4) || (decide (b.length = 32) && rngH b 16)
def addrB (b : List UInt8) : Bool := decide (b.length = 4) || decide (b.length = 16)
theorem anyZ_succ (m : List UInt8) (i : Nat) : anyZ m (i + 1) = (anyZ m i || !bitB m i) := by simp [anyZ, List.range_succ]
theorem rangeAll_no {n i : Nat} {p : Nat → Bool} (hi : i < n) (h : p i = false) : (List.range n).all p = false := by
  rw [List.all_eq_false]; exact ⟨i, List.mem_range.2 hi, by simp [h]⟩
theorem rangeAll_yes {n : Nat} {p : Nat → Bool} (h : ∀ i, i < n → p i = true) : (List.range n).all p = true := by
  rw [List.all_eq_true]; exact fun i hi => h i (List.mem_range.1 hi)

theorem halves_call (b : List UInt8) (hb : b.length ≤ 1000000) : PCall Tryd.prog 53 [.str b] (.tup [.str (b.take (b.length / 2)), .str (b.drop (b.length / 2))]) := by
  refine pcall_body Tryd.func53 rfl Tryd.call53 ?_ ?_
  rotate_left 1
  refine awp_slots (s' := [(.str b : V), .junk, .junk, .junk, .junk, .junk, .junk, .junk, .junk, .junk, .junk, .junk, .junk, .junk]) rfl ?_
  have e : ((b.length : Int) / 2).toNat = b.length / 2 := by omega
  repeat' (first
    | ((first | refine arun_go0 rfl fun K9 h9 => ?_ | refine arunD_goF rfl rfl fun K9 h9 => ?_ | refine arunD_goT rfl rfl fun K9 h9 => ?_); simp (disch := (first | (simp; done) | omega | (simp; omega))) [e, List.take_of_length_le]; (try simp (disch := (first | omega | (simp; omega))) only [wrap_i64, wrap_u8, wrap_u32, wrap_u64, Int.tmod_eq_emod_of_nonneg, Int.tdiv_eq_ediv_of_nonneg]); (repeat (refine And.intro (by first | omega | (simp; first | done | omega) | assumption | (intro e9; have e8 := congrArg List.length e9; first | (simp at e8; done) | ((try simp only [List.length_map, List.length_append] at e8); rw [List.length_nil] at e8; omega))) ?_)); (first | refine h9 _ _ (arun_slots (by first | (dsimp only [sput, sset]; done) | rfl) ?_) | refine h9 _ _ (arunD_slots' (by first | (dsimp only [sput, sset]; done) | rfl) (by first | (dsimp only [List.tail]; done) | rfl) ?_)); clear h9 K9)
    | (refine arun_end ?_)
    | (refine arunD_end ?_)
    | (refine awp_seq fun K hK => ?_)
    | (refine awp_region ?_)
    | (refine hK _ _ ?_; clear hK K)
    | ((first | refine awp_region_draw' (m := 0) (by decide +kernel) [] (by kernel_rfl) (by decide +kernel) ?_); dsimp only [List.replicate, List.append_nil, List.cons_append, List.nil_append, List.length_cons, List.length_nil])
    | (refine awp_ret ?_; refine ret_go ?_)
    | (refine fall_go ?_)
    | (simp only [athen_normal, athen_exit, athen_ret, ablock_self, ablock_ne, ablock_normal, ablock_ret, Nat.reduceBEq])
    | (clear hK K; refine hK _ _ ?_; clear hK K)
    | (clear hK K; clear hK K; refine hK _ _ ?_; clear hK K)
    | (clear hK K; clear hK K; clear hK K; refine hK _ _ ?_; clear hK K)
    | (clear hK K; clear hK K; clear hK K; clear hK K; refine hK _ _ ?_; clear hK K)
    | (clear hK K; clear hK K; clear hK K; clear hK K; clear hK K; refine hK _ _ ?_; clear hK K))
  · simp [List.take_of_length_le]
    exact .pure (by simp)
  · simp

theorem addr_call (b : List UInt8) (hb : b.length ≤ 1000000) : PCall Tryd.prog 33 [.str b] (.bool (addrB b)) := by
  refine pcall_body Tryd.func33 rfl Tryd.call33 ?_ ?_
  rotate_left 1
  refine awp_slots (s' := [(.str b : V), .junk, .junk, .junk, .junk, .junk, .junk, .junk, .junk, .junk, .junk]) rfl ?_
  by_cases h1 : b.length = 4
  · have h1' : (b.length : Int) = 4 := by omega
    repeat' (first
    | ((first | refine arunU_go0 rfl fun K9 h9 => ?_ | (refine arunU_go ?_ ?_; (focus (simp [h1, h1']; done)); intro K9 h9)); simp (disch := (first | (simp; done) | omega | (simp; omega))) [h1, h1']; (try simp (disch := (first | omega | (simp; omega))) only [wrap_i64, wrap_u8, wrap_u32, wrap_u64, Int.tmod_eq_emod_of_nonneg, Int.tdiv_eq_ediv_of_nonneg]); (repeat (refine And.intro (by first | omega | (simp; first | done | omega) | assumption | (intro e9; have e8 := congrArg List.length e9; first | (simp at e8; done) | ((try simp only [List.length_map, List.length_append] at e8); rw [List.length_nil] at e8; omega))) ?_)); (first | refine h9 _ _ (arunU_slots (by first | (dsimp only [sput, sset]; done) | rfl) ?_)); clear h9 K9)
    | (refine arunU_end ?_)
    | (refine awp_seq fun K hK => ?_)
    | (refine awp_regionU ?_)
    | (refine hK _ _ ?_; clear hK K)
    | (refine awp_ret ?_; refine ret_go ?_)
    | (refine arunU_no ?_ ?_; (focus (simp [h1, h1']; done)); refine arunU_slots (by first | (dsimp only [sput, sset]; done) | rfl) ?_)
    | (refine fall_go ?_)
    | (simp only [athen_normal, athen_exit, athen_ret, ablock_self, ablock_ne, ablock_normal, ablock_ret, Nat.reduceBEq])
    | (clear hK K; refine hK _ _ ?_; clear hK K)
    | (clear hK K; clear hK K; refine hK _ _ ?_; clear hK K)
    | (clear hK K; clear hK K; clear hK K; refine hK _ _ ?_; clear hK K)
    | (clear hK K; clear hK K; clear hK K; clear hK K; refine hK _ _ ?_; clear hK K)
    | (clear hK K; clear hK K; clear hK K; clear hK K; clear hK K; refine hK _ _ ?_; clear hK K))
    simp [addrB, h1]
    exact .pure .bool
  · have h1' : ¬ (b.length : Int) = 4 := by omega
    by_cases h2 : b.length = 16
    · have h2' : (b.length : Int) = 16 := by omega
      repeat' (first
    | ((first | refine arunU_go0 rfl fun K9 h9 => ?_ | (refine arunU_go ?_ ?_; (focus (simp [h1', h2, h2']; done)); intro K9 h9)); simp (disch := (first | (simp; done) | omega | (simp; omega))) [h1', h2, h2']; (try simp (disch := (first | omega | (simp; omega))) only [wrap_i64, wrap_u8, wrap_u32, wrap_u64, Int.tmod_eq_emod_of_nonneg, Int.tdiv_eq_ediv_of_nonneg]); (repeat (refine And.intro (by first | omega | (simp; first | done | omega) | assumption | (intro e9; have e8 := congrArg List.length e9; first | (simp at e8; done) | ((try simp only [List.length_map, List.length_append] at e8); rw [List.length_nil] at e8; omega))) ?_)); (first | refine h9 _ _ (arunU_slots (by first | (dsimp only [sput, sset]; done) | rfl) ?_)); clear h9 K9)
    | (refine arunU_end ?_)
    | (refine awp_seq fun K hK => ?_)
    | (refine awp_regionU ?_)
    | (refine hK _ _ ?_; clear hK K)
    | (refine awp_ret ?_; refine ret_go ?_)
    | (refine arunU_no ?_ ?_; (focus (simp [h1', h2, h2']; done)); refine arunU_slots (by first | (dsimp only [sput, sset]; done) | rfl) ?_)
    | (refine fall_go ?_)
    | (simp only [athen_normal, athen_exit, athen_ret, ablock_self, ablock_ne, ablock_normal, ablock_ret, Nat.reduceBEq])
    | (clear hK K; refine hK _ _ ?_; clear hK K)
    | (clear hK K; clear hK K; refine hK _ _ ?_; clear hK K)
    | (clear hK K; clear hK K; clear hK K; refine hK _ _ ?_; clear hK K)
    | (clear hK K; clear hK K; clear hK K; clear hK K; refine hK _ _ ?_; clear hK K)
    | (clear hK K; clear hK K; clear hK K; clear hK K; clear hK K; refine hK _ _ ?_; clear hK K))
      simp [addrB, h2]
      exact .pure .bool
    · have h2' : ¬ (b.length : Int) = 16 := by omega
      have e : ((b.length : Int) == 16) = false := beq_false_of_ne h2'
      repeat' (first
    | ((first | refine arunU_go0 rfl fun K9 h9 => ?_ | (refine arunU_go ?_ ?_; (focus (simp [h1', h2']; done)); intro K9 h9)); simp (disch := (first | (simp; done) | omega | (simp; omega))) [h1', h2']; (try simp (disch := (first | omega | (simp; omega))) only [wrap_i64, wrap_u8, wrap_u32, wrap_u64, Int.tmod_eq_emod_of_nonneg, Int.tdiv_eq_ediv_of_nonneg]); (repeat (refine And.intro (by first | omega | (simp; first | done | omega) | assumption | (intro e9; have e8 := congrArg List.length e9; first | (simp at e8; done) | ((try simp only [List.length_map, List.length_append] at e8); rw [List.length_nil] at e8; omega))) ?_)); (first | refine h9 _ _ (arunU_slots (by first | (dsimp only [sput, sset]; done) | rfl) ?_)); clear h9 K9)
    | (refine arunU_end ?_)
    | (refine awp_seq fun K hK => ?_)
    | (refine awp_regionU ?_)
    | (refine hK _ _ ?_; clear hK K)
    | (refine awp_ret ?_; refine ret_go ?_)
    | (refine arunU_no ?_ ?_; (focus (simp [h1', h2']; done)); refine arunU_slots (by first | (dsimp only [sput, sset]; done) | rfl) ?_)
    | (refine fall_go ?_)
    | (simp only [athen_normal, athen_exit, athen_ret, ablock_self, ablock_ne, ablock_normal, ablock_ret, Nat.reduceBEq])
    | (clear hK K; refine hK _ _ ?_; clear hK K)
    | (clear hK K; clear hK K; refine hK _ _ ?_; clear hK K)
    | (clear hK K; clear hK K; clear hK K; refine hK _ _ ?_; clear hK K)
    | (clear hK K; clear hK K; clear hK K; clear hK K; refine hK _ _ ?_; clear hK K)
    | (clear hK K; clear hK K; clear hK K; clear hK K; clear hK K; refine hK _ _ ?_; clear hK K))
      simp [addrB, h1, h2, e]
      exact .pure .bool
  · exact .bool

theorem raddr_call (b : List UInt8) (hb : b.length ≤ 1000000) : PCall Tryd.prog 34 [.str b] (.bool (addrB b)) := by
  refine pcall_body Tryd.func34 rfl Tryd.call34 ?_ ?_
  rotate_left 1
  refine awp_slots (s' := [(.str b : V), .junk, .junk, .junk, .junk, .junk, .junk, .junk, .junk, .junk, .junk]) rfl ?_
  by_cases h1 : b.length = 4
  · have h1' : (b.length : Int) = 4 := by omega
    repeat' (first
    | ((first | refine arunU_go0 rfl fun K9 h9 => ?_ | (refine arunU_go ?_ ?_; (focus (simp [h1, h1']; done)); intro K9 h9)); simp (disch := (first | (simp; done) | omega | (simp; omega))) [h1, h1']; (try simp (disch := (first | omega | (simp; omega))) only [wrap_i64, wrap_u8, wrap_u32, wrap_u64, Int.tmod_eq_emod_of_nonneg, Int.tdiv_eq_ediv_of_nonneg]); (repeat (refine And.intro (by first | omega | (simp; first | done | omega) | assumption | (intro e9; have e8 := congrArg List.length e9; first | (simp at e8; done) | ((try simp only [List.length_map, List.length_append] at e8); rw [List.length_nil] at e8; omega))) ?_)); (first | refine h9 _ _ (arunU_slots (by first | (dsimp only [sput, sset]; done) | rfl) ?_)); clear h9 K9)
    | (refine arunU_end ?_)
    | (refine awp_seq fun K hK => ?_)
    | (refine awp_regionU ?_)
    | (refine hK _ _ ?_; clear hK K)
    | (refine awp_ret ?_; refine ret_go ?_)
    | (refine arunU_no ?_ ?_; (focus (simp [h1, h1']; done)); refine arunU_slots (by first | (dsimp only [sput, sset]; done) | rfl) ?_)
    | (refine fall_go ?_)
    | (simp only [athen_normal, athen_exit, athen_ret, ablock_self, ablock_ne, ablock_normal, ablock_ret, Nat.reduceBEq])
    | (clear hK K; refine hK _ _ ?_; clear hK K)
    | (clear hK K; clear hK K; refine hK _ _ ?_; clear hK K)
    | (clear hK K; clear hK K; clear hK K; refine hK _ _ ?_; clear hK K)
    | (clear hK K; clear hK K; clear hK K; clear hK K; refine hK _ _ ?_; clear hK K)
    | (clear hK K; clear hK K; clear hK K; clear hK K; clear hK K; refine hK _ _ ?_; clear hK K))
    simp [addrB, h1]
    exact .pure .bool
  · have h1' : ¬ (b.length : Int) = 4 := by omega
    by_cases h2 : b.length = 16
    · have h2' : (b.length : Int) = 16 := by omega
      repeat' (first
    | ((first | refine arunU_go0 rfl fun K9 h9 => ?_ | (refine arunU_go ?_ ?_; (focus (simp [h1', h2, h2']; done)); intro K9 h9)); simp (disch := (first | (simp; done) | omega | (simp; omega))) [h1', h2, h2']; (try simp (disch := (first | omega | (simp; omega))) only [wrap_i64, wrap_u8, wrap_u32, wrap_u64, Int.tmod_eq_emod_of_nonneg, Int.tdiv_eq_ediv_of_nonneg]); (repeat (refine And.intro (by first | omega | (simp; first | done | omega) | assumption | (intro e9; have e8 := congrArg List.length e9; first | (simp at e8; done) | ((try simp only [List.length_map, List.length_append] at e8); rw [List.length_nil] at e8; omega))) ?_)); (first | refine h9 _ _ (arunU_slots (by first | (dsimp only [sput, sset]; done) | rfl) ?_)); clear h9 K9)
    | (refine arunU_end ?_)
    | (refine awp_seq fun K hK => ?_)
    | (refine awp_regionU ?_)
    | (refine hK _ _ ?_; clear hK K)
    | (refine awp_ret ?_; refine ret_go ?_)
    | (refine arunU_no ?_ ?_; (focus (simp [h1', h2, h2']; done)); refine arunU_slots (by first | (dsimp only [sput, sset]; done) | rfl) ?_)
    | (refine fall_go ?_)
    | (simp only [athen_normal, athen_exit, athen_ret, ablock_self, ablock_ne, ablock_normal, ablock_ret, Nat.reduceBEq])
    | (clear hK K; refine hK _ _ ?_; clear hK K)
    | (clear hK K; clear hK K; refine hK _ _ ?_; clear hK K)
    | (clear hK K; clear hK K; clear hK K; refine hK _ _ ?_; clear hK K)
    | (clear hK K; clear hK K; clear hK K; clear hK K; refine hK _ _ ?_; clear hK K)
    | (clear hK K; clear hK K; clear hK K; clear hK K; clear hK K; refine hK _ _ ?_; clear hK K))
      simp [addrB, h2]
      exact .pure .bool
    · have h2' : ¬ (b.length : Int) = 16 := by omega
      have e : ((b.length : Int) == 16) = false := beq_false_of_ne h2'
      repeat' (first
    | ((first | refine arunU_go0 rfl fun K9 h9 => ?_ | (refine arunU_go ?_ ?_; (focus (simp [h1', h2']; done)); intro K9 h9)); simp (disch := (first | (simp; done) | omega | (simp; omega))) [h1', h2']; (try simp (disch := (first | omega | (simp; omega))) only [wrap_i64, wrap_u8, wrap_u32, wrap_u64, Int.tmod_eq_emod_of_nonneg, Int.tdiv_eq_ediv_of_nonneg]); (repeat (refine And.intro (by first | omega | (simp; first | done | omega) | assumption | (intro e9; have e8 := congrArg List.length e9; first | (simp at e8; done) | ((try simp only [List.length_map, List.length_append] at e8); rw [List.length_nil] at e8; omega))) ?_)); (first | refine h9 _ _ (arunU_slots (by first | (dsimp only [sput, sset]; done) | rfl) ?_)); clear h9 K9)
    | (refine arunU_end ?_)
    | (refine awp_seq fun K hK => ?_)
    | (refine awp_regionU ?_)
    | (refine hK _ _ ?_; clear hK K)
    | (refine awp_ret ?_; refine ret_go ?_)
    | (refine arunU_no ?_ ?_; (focus (simp [h1', h2']; done)); refine arunU_slots (by first | (dsimp only [sput, sset]; done) | rfl) ?_)
    | (refine fall_go ?_)
    | (simp only [athen_normal, athen_exit, athen_ret, ablock_self, ablock_ne, ablock_normal, ablock_ret, Nat.reduceBEq])
    | (clear hK K; refine hK _ _ ?_; clear hK K)
    | (clear hK K; clear hK K; refine hK _ _ ?_; clear hK K)
    | (clear hK K; clear hK K; clear hK K; refine hK _ _ ?_; clear hK K)
    | (clear hK K; clear hK K; clear hK K; clear hK K; refine hK _ _ ?_; clear hK K)
    | (clear hK K; clear hK K; clear hK K; clear hK K; clear hK K; refine hK _ _ ?_; clear hK K))
      simp [addrB, h1, h2, e]
      exact .pure .bool
  · exact .bool

theorem rng_no {b : List UInt8} (h1 : b.length ≠ 8) (h2 : b.length ≠ 32) : rngB b = false := by simp [rngB, h1, h2]
theorem rng_8 {b : List UInt8} (h : b.length = 8) : rngB b = rngH b 4 := by simp [rngB, h]
theorem rng_32 {b : List UInt8} (h : b.length = 32) : rngB b = rngH b 16 := by simp [rngB, h]
end Go.Proofs.YtegmenlonpgnpaaDoor
