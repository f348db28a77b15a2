/-
  HOST: bytes and small letters.
  Conditions: none.
-/
import Derived.Test.YtegmenlonpgnpaaDoorH2
import Derived.Test.YtegmenlonpgnpaaDoorVs29
namespace Go.Proofs.YtegmenlonpgnpaaDoor
open Go.VS Go.Hst
set_option linter.all false
attribute [local irreducible] arun arunD arunU AWp aend

theorem bytes_full {l : List UInt8} {n : Nat} (h : l.length ≤ n) : List.take n (l.map byteV) = l.map byteV := List.take_of_length_le (by simpa using h)
theorem byteV_int {n : Int} (h0 : 0 ≤ n) (h1 : n < 256) : V.int .u8 n = byteV (UInt8.ofNat n.toNat) := by
  have : (UInt8.ofNat n.toNat).toNat = n.toNat := by simp; omega
  simp only [byteV, this, V.int.injEq, true_and]
  omega
theorem wrap_u8' (n : Int) : IntKind.u8.wrap n = n % 256 := by simp [IntKind.wrap, IntKind.signed, IntKind.bits]

def letB (c : UInt8) : Bool := (97 ≤ c.toNat && c.toNat ≤ 122) || (65 ≤ c.toNat && c.toNat ≤ 90)
def digB (c : UInt8) : Bool := 48 ≤ c.toNat && c.toNat ≤ 57
theorem okB_eq (c : UInt8) : okB c = (letB c || digB c) := rfl

theorem letter_call (c : UInt8) : PCall Tryd.prog 56 [byteV c] (.bool (letB c)) := by
  refine pcall_body Tryd.func56 rfl Tryd.call56 ?_ ?_
  rotate_left 1
  refine awp_slots (s' := [(byteV c : V), .junk, .junk, .junk, .junk, .junk, .junk, .junk, .junk, .junk, .junk, .junk, .junk, .junk, .junk, .junk, .junk]) rfl ?_
  have hc : c.toNat < 256 := UInt8.toNat_lt _
  simp only [byteV]
  by_cases a1 : (97 : Int) ≤ c.toNat <;> by_cases a2 : (c.toNat : Int) ≤ 122 <;> by_cases a3 : (65 : Int) ≤ c.toNat <;> by_cases a4 : (c.toNat : Int) ≤ 90 <;> (try (exfalso; omega)) <;> (
  repeat' (first
    | ((first | refine arunU_go0 rfl fun K9 h9 => ?_ | (refine arunU_go ?_ ?_; (focus (simp [a1, a2, a3, a4]; done)); intro K9 h9)); simp (disch := (first | (simp; done) | omega | (simp; omega))) [a1, a2, a3, a4]; (try simp (disch := (first | omega | (simp; omega))) only [wrap_i64, wrap_u8, wrap_u32, wrap_u64, Int.tmod_eq_emod_of_nonneg, Int.tdiv_eq_ediv_of_nonneg]); (repeat (refine And.intro (by first | omega | (simp; first | done | omega) | assumption | (intro e9; have e8 := congrArg List.length e9; first | (simp at e8; done) | ((try simp only [List.length_map, List.length_append] at e8); rw [List.length_nil] at e8; omega))) ?_)); (first | refine h9 _ _ (arunU_slots (by first | (dsimp only [sput, sset]; done) | rfl) ?_)); clear h9 K9)
    | (refine arunU_end ?_)
    | (refine awp_seq fun K hK => ?_)
    | (refine awp_regionU ?_)
    | (refine hK _ _ ?_; clear hK K)
    | (refine awp_ret ?_; refine ret_go ?_)
    | (refine arunU_no ?_ ?_; (focus (simp [a1, a2, a3, a4]; done)); refine arunU_slots (by first | (dsimp only [sput, sset]; done) | rfl) ?_)
    | (refine fall_go ?_)
    | (simp only [athen_normal, athen_exit, athen_ret, ablock_self, ablock_ne, ablock_normal, ablock_ret, Nat.reduceBEq])
    | (clear hK K; refine hK _ _ ?_; clear hK K)
    | (clear hK K; clear hK K; refine hK _ _ ?_; clear hK K)
    | (clear hK K; clear hK K; clear hK K; refine hK _ _ ?_; clear hK K)
    | (clear hK K; clear hK K; clear hK K; clear hK K; refine hK _ _ ?_; clear hK K)
    | (clear hK K; clear hK K; clear hK K; clear hK K; clear hK K; refine hK _ _ ?_; clear hK K))
  have b1 : decide (97 ≤ c.toNat) = decide ((97 : Int) ≤ c.toNat) := by simp; omega
  have b2 : decide (c.toNat ≤ 122) = decide ((c.toNat : Int) ≤ 122) := by simp; omega
  have b3 : decide (65 ≤ c.toNat) = decide ((65 : Int) ≤ c.toNat) := by simp; omega
  have b4 : decide (c.toNat ≤ 90) = decide ((c.toNat : Int) ≤ 90) := by simp; omega
  simp [letB, b1, b2, b3, b4, a1, a2, a3, a4]
  exact .pure .bool)
  · exact .bool

theorem digit_call (c : UInt8) : PCall Tryd.prog 57 [byteV c] (.bool (digB c)) := by
  refine pcall_body Tryd.func57 rfl Tryd.call57 ?_ ?_
  rotate_left 1
  refine awp_slots (s' := [(byteV c : V), .junk, .junk, .junk, .junk, .junk, .junk, .junk, .junk]) rfl ?_
  have hc : c.toNat < 256 := UInt8.toNat_lt _
  simp only [byteV]
  by_cases a1 : (48 : Int) ≤ c.toNat <;> by_cases a2 : (c.toNat : Int) ≤ 57 <;> (try (exfalso; omega)) <;> (
  repeat' (first
    | ((first | refine arunU_go0 rfl fun K9 h9 => ?_ | (refine arunU_go ?_ ?_; (focus (simp [a1, a2]; done)); intro K9 h9)); simp (disch := (first | (simp; done) | omega | (simp; omega))) [a1, a2]; (try simp (disch := (first | omega | (simp; omega))) only [wrap_i64, wrap_u8, wrap_u32, wrap_u64, Int.tmod_eq_emod_of_nonneg, Int.tdiv_eq_ediv_of_nonneg]); (repeat (refine And.intro (by first | omega | (simp; first | done | omega) | assumption | (intro e9; have e8 := congrArg List.length e9; first | (simp at e8; done) | ((try simp only [List.length_map, List.length_append] at e8); rw [List.length_nil] at e8; omega))) ?_)); (first | refine h9 _ _ (arunU_slots (by first | (dsimp only [sput, sset]; done) | rfl) ?_)); clear h9 K9)
    | (refine arunU_end ?_)
    | (refine awp_seq fun K hK => ?_)
    | (refine awp_regionU ?_)
    | (refine hK _ _ ?_; clear hK K)
    | (refine awp_ret ?_; refine ret_go ?_)
    | (refine arunU_no ?_ ?_; (focus (simp [a1, a2]; done)); refine arunU_slots (by first | (dsimp only [sput, sset]; done) | rfl) ?_)
    | (refine fall_go ?_)
    | (simp only [athen_normal, athen_exit, athen_ret, ablock_self, ablock_ne, ablock_normal, ablock_ret, Nat.reduceBEq])
    | (clear hK K; refine hK _ _ ?_; clear hK K)
    | (clear hK K; clear hK K; refine hK _ _ ?_; clear hK K)
    | (clear hK K; clear hK K; clear hK K; refine hK _ _ ?_; clear hK K)
    | (clear hK K; clear hK K; clear hK K; clear hK K; refine hK _ _ ?_; clear hK K)
    | (clear hK K; clear hK K; clear hK K; clear hK K; clear hK K; refine hK _ _ ?_; clear hK K))
  have b1 : decide (48 ≤ c.toNat) = decide ((48 : Int) ≤ c.toNat) := by simp; omega
  have b2 : decide (c.toNat ≤ 57) = decide ((c.toNat : Int) ≤ 57) := by simp; omega
  simp [digB, b1, b2, a1, a2]
  exact .pure .bool)
  · exact .bool

theorem alnum_call (c : UInt8) : PCall Tryd.prog 42 [byteV c] (.bool (okB c)) := by
  refine pcall_body Tryd.func42 rfl Tryd.call42 ?_ ?_
  rotate_left 1
  refine awp_slots (s' := [(byteV c : V), .junk, .junk, .junk, .junk, .junk, .junk, .junk, .junk, .junk, .junk, .junk, .junk, .junk, .junk, .junk, .junk, .junk, .junk, .junk, .junk, .junk, .junk, .junk, .junk]) rfl ?_
  have hc : c.toNat < 256 := UInt8.toNat_lt _
  simp only [byteV]
  by_cases a3 : (65 : Int) ≤ c.toNat <;> by_cases a4 : (c.toNat : Int) ≤ 90 <;> by_cases a1 : (97 : Int) ≤ c.toNat <;> by_cases a2 : (c.toNat : Int) ≤ 122 <;> by_cases a5 : (48 : Int) ≤ c.toNat <;> by_cases a6 : (c.toNat : Int) ≤ 57 <;> (try (exfalso; omega)) <;> (
  repeat' (first
    | ((first | refine arunU_go0 rfl fun K9 h9 => ?_ | (refine arunU_go ?_ ?_; (focus (simp [a1, a2, a3, a4, a5, a6]; done)); intro K9 h9)); simp (disch := (first | (simp; done) | omega | (simp; omega))) [a1, a2, a3, a4, a5, a6]; (try simp (disch := (first | omega | (simp; omega))) only [wrap_i64, wrap_u8, wrap_u32, wrap_u64, Int.tmod_eq_emod_of_nonneg, Int.tdiv_eq_ediv_of_nonneg]); (repeat (refine And.intro (by first | omega | (simp; first | done | omega) | assumption | (intro e9; have e8 := congrArg List.length e9; first | (simp at e8; done) | ((try simp only [List.length_map, List.length_append] at e8); rw [List.length_nil] at e8; omega))) ?_)); (first | refine h9 _ _ (arunU_slots (by first | (dsimp only [sput, sset]; done) | rfl) ?_)); clear h9 K9)
    | (refine arunU_end ?_)
    | (refine awp_seq fun K hK => ?_)
    | (refine awp_regionU ?_)
    | (refine hK _ _ ?_; clear hK K)
    | (refine awp_ret ?_; refine ret_go ?_)
    | (refine arunU_no ?_ ?_; (focus (simp [a1, a2, a3, a4, a5, a6]; done)); refine arunU_slots (by first | (dsimp only [sput, sset]; done) | rfl) ?_)
    | (refine fall_go ?_)
    | (simp only [athen_normal, athen_exit, athen_ret, ablock_self, ablock_ne, ablock_normal, ablock_ret, Nat.reduceBEq])
    | (clear hK K; refine hK _ _ ?_; clear hK K)
    | (clear hK K; clear hK K; refine hK _ _ ?_; clear hK K)
    | (clear hK K; clear hK K; clear hK K; refine hK _ _ ?_; clear hK K)
    | (clear hK K; clear hK K; clear hK K; clear hK K; refine hK _ _ ?_; clear hK K)
    | (clear hK K; clear hK K; clear hK K; clear hK K; clear hK K; refine hK _ _ ?_; clear hK K))
  have b1 : decide (97 ≤ c.toNat) = decide ((97 : Int) ≤ c.toNat) := by simp; omega
  have b2 : decide (c.toNat ≤ 122) = decide ((c.toNat : Int) ≤ 122) := by simp; omega
  have b3 : decide (65 ≤ c.toNat) = decide ((65 : Int) ≤ c.toNat) := by simp; omega
  have b4 : decide (c.toNat ≤ 90) = decide ((c.toNat : Int) ≤ 90) := by simp; omega
  have b5 : decide (48 ≤ c.toNat) = decide ((48 : Int) ≤ c.toNat) := by simp; omega
  have b6 : decide (c.toNat ≤ 57) = decide ((c.toNat : Int) ≤ 57) := by simp; omega
  simp [okB, b1, b2, b3, b4, b5, b6, a1, a2, a3, a4, a5, a6]
  exact .pure .bool)
  · exact .bool

theorem among_call (c : UInt8) (l : List UInt8) (hl : l.length ≤ 1000000) : PCall Tryd.prog 62 [byteV c, .str l] (.bool (decide (c ∈ l))) := by
  refine pcall_body Tryd.func62 rfl Tryd.call62 ?_ ?_
  rotate_left 1
  refine awp_slots (s' := [(byteV c : V), (.str l : V), .junk, .junk, .junk, .junk, .junk, .junk, .junk, .junk, .junk, .junk, .junk, .junk, .junk, .junk, .junk]) rfl ?_
  simp only [byteV]
  repeat' (first
    | (refine arun_go0 rfl fun K9 h9 => ?_; simp (disch := (first | (simp; done) | omega | (simp; omega))) ; (try simp (disch := (first | omega | (simp; omega))) only [wrap_i64, wrap_u8, wrap_u32, wrap_u64, Int.tmod_eq_emod_of_nonneg, Int.tdiv_eq_ediv_of_nonneg]); (repeat (refine And.intro (by first | omega | (simp; first | done | omega) | assumption | (intro e9; have e8 := congrArg List.length e9; first | (simp at e8; done) | ((try simp only [List.length_map, List.length_append] at e8); rw [List.length_nil] at e8; omega))) ?_)); (first | refine h9 _ _ (arun_slots (by first | (dsimp only [sput, sset]; done) | rfl) ?_)); clear h9 K9)
    | (refine arun_end ?_)
    | (refine awp_seq fun K hK => ?_)
    | (refine awp_region ?_)
    | (refine hK _ _ ?_; clear hK K)
    | (refine awp_block ?_)
    | (refine awp_cond rfl (fun hcnd => ?_) (fun hcnd => ?_) <;> (try simp at hcnd) <;> (try contradiction) <;> (try (exfalso; omega)))
    | (refine awp_skip ?_)
    | (refine awp_exit ?_; simp only [athen_normal, athen_exit, athen_ret, ablock_self, ablock_ne, ablock_normal, ablock_ret, Nat.reduceBEq])
    | (refine awp_ret ?_; refine ret_go ?_)
    | (refine fall_go ?_)
    | (simp only [athen_normal, athen_exit, athen_ret, ablock_self, ablock_ne, ablock_normal, ablock_ret, Nat.reduceBEq])
    | (clear hK K; refine hK _ _ ?_; clear hK K)
    | (clear hK K; clear hK K; refine hK _ _ ?_; clear hK K)
    | (clear hK K; clear hK K; clear hK K; refine hK _ _ ?_; clear hK K)
    | (clear hK K; clear hK K; clear hK K; clear hK K; refine hK _ _ ?_; clear hK K)
    | (clear hK K; clear hK K; clear hK K; clear hK K; clear hK K; refine hK _ _ ?_; clear hK K))
  · refine awp_loopU (α := Nat) (fun i => [none, none, none, none, some V.junk, some (V.int .i64 i), some V.junk, some V.junk, some V.junk, some V.junk, some V.junk, some V.junk, some V.junk, some V.junk, some V.junk, some V.junk, some V.junk]) (fun i => []) (fun i => i ≤ l.length ∧ ∀ j (h : j < l.length), j < i → l[j] ≠ c) (fun i => l.length - i) 0 ⟨by omega, fun j _ h => by omega⟩ ?_ ?_
    · dsimp only [ups_some, ups_none, ups_nil, ups_nil']
      exact Le.mk [] (by simp) (rowsRen_of (by simp) (by simp [rowsOver])) (by simp)
    rintro i ⟨hi, hall⟩ KL hL
    dsimp only [ups_some, ups_none, ups_nil, ups_nil']
    rcases Nat.lt_or_ge i l.length with hi | hi
    · by_cases hx : l[i] = c
      · have hx' : ((l[i].toNat : Int) = c.toNat) := by rw [hx]
        repeat' (first
    | (refine arun_go0 rfl fun K9 h9 => ?_; simp (disch := (first | (simp; done) | omega | (simp; omega))) [hx']; (try simp (disch := (first | omega | (simp; omega))) only [wrap_i64, wrap_u8, wrap_u32, wrap_u64, Int.tmod_eq_emod_of_nonneg, Int.tdiv_eq_ediv_of_nonneg]); (repeat (refine And.intro (by first | omega | (simp; first | done | omega) | assumption | (intro e9; have e8 := congrArg List.length e9; first | (simp at e8; done) | ((try simp only [List.length_map, List.length_append] at e8); rw [List.length_nil] at e8; omega))) ?_)); (first | refine h9 _ _ (arun_slots (by first | (dsimp only [sput, sset]; done) | rfl) ?_)); clear h9 K9)
    | (refine arun_end ?_)
    | (refine awp_seq fun K hK => ?_)
    | (refine awp_region ?_)
    | (refine hK _ _ ?_; clear hK K)
    | (refine awp_block ?_)
    | (refine awp_cond rfl (fun hcnd => ?_) (fun hcnd => ?_) <;> (try simp at hcnd) <;> (try contradiction) <;> (try (exfalso; omega)))
    | (refine awp_skip ?_)
    | (refine awp_exit ?_; simp only [athen_normal, athen_exit, athen_ret, ablock_self, ablock_ne, ablock_normal, ablock_ret, Nat.reduceBEq])
    | (refine awp_ret ?_; refine ret_go ?_)
    | (refine fall_go ?_)
    | (simp only [athen_normal, athen_exit, athen_ret, ablock_self, ablock_ne, ablock_normal, ablock_ret, Nat.reduceBEq])
    | (clear hK K; refine hK _ _ ?_; clear hK K)
    | (clear hK K; clear hK K; refine hK _ _ ?_; clear hK K)
    | (clear hK K; clear hK K; clear hK K; refine hK _ _ ?_; clear hK K)
    | (clear hK K; clear hK K; clear hK K; clear hK K; refine hK _ _ ?_; clear hK K)
    | (clear hK K; clear hK K; clear hK K; clear hK K; clear hK K; refine hK _ _ ?_; clear hK K))
        have : decide (c ∈ l) = true := by simp; rw [← hx]; exact List.getElem_mem _
        rw [this]
        exact .pure .bool
      · have hx' : ¬ ((l[i].toNat : Int) = c.toNat) := fun e => hx (UInt8.toNat_inj.1 (by omega))
        repeat' (first
    | (refine arun_go0 rfl fun K9 h9 => ?_; simp (disch := (first | (simp; done) | omega | (simp; omega))) [hx']; (try simp (disch := (first | omega | (simp; omega))) only [wrap_i64, wrap_u8, wrap_u32, wrap_u64, Int.tmod_eq_emod_of_nonneg, Int.tdiv_eq_ediv_of_nonneg]); (repeat (refine And.intro (by first | omega | (simp; first | done | omega) | assumption | (intro e9; have e8 := congrArg List.length e9; first | (simp at e8; done) | ((try simp only [List.length_map, List.length_append] at e8); rw [List.length_nil] at e8; omega))) ?_)); (first | refine h9 _ _ (arun_slots (by first | (dsimp only [sput, sset]; done) | rfl) ?_)); clear h9 K9)
    | (refine arun_end ?_)
    | (refine awp_seq fun K hK => ?_)
    | (refine awp_region ?_)
    | (refine hK _ _ ?_; clear hK K)
    | (refine awp_block ?_)
    | (refine awp_cond rfl (fun hcnd => ?_) (fun hcnd => ?_) <;> (try simp at hcnd) <;> (try contradiction) <;> (try (exfalso; omega)))
    | (refine awp_skip ?_)
    | (refine awp_exit ?_; simp only [athen_normal, athen_exit, athen_ret, ablock_self, ablock_ne, ablock_normal, ablock_ret, Nat.reduceBEq])
    | (refine awp_ret ?_; refine ret_go ?_)
    | (refine fall_go ?_)
    | (simp only [athen_normal, athen_exit, athen_ret, ablock_self, ablock_ne, ablock_normal, ablock_ret, Nat.reduceBEq])
    | (clear hK K; refine hK _ _ ?_; clear hK K)
    | (clear hK K; clear hK K; refine hK _ _ ?_; clear hK K)
    | (clear hK K; clear hK K; clear hK K; refine hK _ _ ?_; clear hK K)
    | (clear hK K; clear hK K; clear hK K; clear hK K; refine hK _ _ ?_; clear hK K)
    | (clear hK K; clear hK K; clear hK K; clear hK K; clear hK K; refine hK _ _ ?_; clear hK K))
        refine hL (i + 1) _ _ ⟨by omega, fun j hj h => ?_⟩ (by omega) ?_
        · rcases Nat.lt_or_ge j i with h3 | h3
          · exact hall j hj h3
          · obtain rfl : j = i := by omega
            exact hx
        · exact Le.mk [] (by dsimp only [ups_some, ups_none, ups_nil, ups_nil']; simp) (rowsRen_of (by simp) (by simp [rowsOver])) (by simp)
    · repeat' (first
    | (refine arun_go0 rfl fun K9 h9 => ?_; simp (disch := (first | (simp; done) | omega | (simp; omega))) ; (try simp (disch := (first | omega | (simp; omega))) only [wrap_i64, wrap_u8, wrap_u32, wrap_u64, Int.tmod_eq_emod_of_nonneg, Int.tdiv_eq_ediv_of_nonneg]); (repeat (refine And.intro (by first | omega | (simp; first | done | omega) | assumption | (intro e9; have e8 := congrArg List.length e9; first | (simp at e8; done) | ((try simp only [List.length_map, List.length_append] at e8); rw [List.length_nil] at e8; omega))) ?_)); (first | refine h9 _ _ (arun_slots (by first | (dsimp only [sput, sset]; done) | rfl) ?_)); clear h9 K9)
    | (refine arun_end ?_)
    | (refine awp_seq fun K hK => ?_)
    | (refine awp_region ?_)
    | (refine hK _ _ ?_; clear hK K)
    | (refine awp_block ?_)
    | (refine awp_cond rfl (fun hcnd => ?_) (fun hcnd => ?_) <;> (try simp at hcnd) <;> (try contradiction) <;> (try (exfalso; omega)))
    | (refine awp_skip ?_)
    | (refine awp_exit ?_; simp only [athen_normal, athen_exit, athen_ret, ablock_self, ablock_ne, ablock_normal, ablock_ret, Nat.reduceBEq])
    | (refine awp_ret ?_; refine ret_go ?_)
    | (refine fall_go ?_)
    | (simp only [athen_normal, athen_exit, athen_ret, ablock_self, ablock_ne, ablock_normal, ablock_ret, Nat.reduceBEq])
    | (clear hK K; refine hK _ _ ?_; clear hK K)
    | (clear hK K; clear hK K; refine hK _ _ ?_; clear hK K)
    | (clear hK K; clear hK K; clear hK K; refine hK _ _ ?_; clear hK K)
    | (clear hK K; clear hK K; clear hK K; clear hK K; refine hK _ _ ?_; clear hK K)
    | (clear hK K; clear hK K; clear hK K; clear hK K; clear hK K; refine hK _ _ ?_; clear hK K))
      have : decide (c ∈ l) = false := by
        simp
        intro hm
        obtain ⟨j, hj, e⟩ := List.getElem_of_mem hm
        exact hall j hj (by omega) e
      rw [this]
      exact .pure .bool
  · exact .bool
end Go.Proofs.YtegmenlonpgnpaaDoor
