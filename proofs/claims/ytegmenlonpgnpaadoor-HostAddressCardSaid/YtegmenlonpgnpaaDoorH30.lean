/-
  HOST: ranges of addresses by the definition.
  Conditions: none.
-/
import Derived.Test.YtegmenlonpgnpaaDoorH26
namespace Go.Proofs.YtegmenlonpgnpaaDoor
open Go.VS Go.Hst
set_option linter.all false
attribute [local irreducible] arun arunD arunU AWp aend

theorem bit_int (c : UInt8) (s : Nat) : (((c.toNat : Int) / 2 ^ s).tmod 2 == 1) = (c.toNat / 2 ^ s % 2 == 1) := by
  have : (c.toNat : Int) / 2 ^ s = ((c.toNat / 2 ^ s : Nat) : Int) := by simp
  rw [this]
  generalize c.toNat / 2 ^ s = y
  rw [Int.tmod_eq_emod_of_nonneg (by omega), Bool.eq_iff_iff]; simp; omega

set_option maxHeartbeats 8000000 in
theorem rrange_call (b : List UInt8) (hb : b.length ≤ 1000000) : PCall Tryd.prog 36 [.str b] (.bool (rngB b)) := by
  refine pcall_body Tryd.func36 rfl Tryd.call36 ?_ ?_
  rotate_left 1
  refine awp_slots (s' := ((.str b : V) :: V.junk :: V.junk :: V.junk :: V.junk :: V.junk :: V.junk :: V.junk :: V.junk :: V.junk :: V.junk :: V.junk :: V.junk :: V.junk :: V.junk :: V.junk :: V.junk :: V.junk :: V.junk :: V.junk :: V.junk :: V.junk :: V.junk :: V.junk :: V.junk :: V.junk :: V.junk :: V.junk :: V.junk :: V.junk :: V.junk :: V.junk :: V.junk :: V.junk :: V.junk :: V.junk :: V.junk :: V.junk :: V.junk :: V.junk :: V.junk :: V.junk :: V.junk :: V.junk :: V.junk :: V.junk :: V.junk :: V.junk :: V.junk :: V.junk :: V.junk :: V.junk :: V.junk :: V.junk :: V.junk :: V.junk :: V.junk :: V.junk :: V.junk :: V.junk :: V.junk :: [])) rfl ?_
  by_cases h8 : b.length = 8
  · rw [rng_8 h8]
    obtain ⟨h, hh⟩ : ∃ h, 4 = h := ⟨_, rfl⟩
    rw [show rngH b 4 = rngH b h by rw [hh]]
    unfold rngH
    obtain ⟨n, hn⟩ : ∃ n, 8 * h = n := ⟨_, rfl⟩
    rw [hn]
    have f8 : ((b.length : Int) != 8) = false := by rw [h8]; rfl
    have f32 : ((b.length : Int) != 32) = true := by rw [h8]; rfl
    have hbl : b.length = 2 * h := by omega
    have e0 : (b.length : Int) / 2 = h := by omega
    have hh2 : h ≤ 16 := by omega
    clear hh h8
    obtain ⟨a, ha⟩ : ∃ a, b.take h = a := ⟨_, rfl⟩
    obtain ⟨m, hm⟩ : ∃ a, b.drop h = a := ⟨_, rfl⟩
    rw [ha, hm]
    repeat' (first
    | ((first | refine arunU_go0 rfl fun K9 h9 => ?_ | (refine arunU_go ?_ ?_; (focus (simp [f8, f32, e0]; done)); intro K9 h9)); simp (disch := (first | (simp; done) | omega | (simp; omega))) [f8, f32, e0]; (try simp (disch := (first | omega | (simp; omega))) only [wrap_i64, wrap_u8, wrap_u32, wrap_u64, Int.tmod_eq_emod_of_nonneg, Int.tdiv_eq_ediv_of_nonneg]); (repeat (refine And.intro (by first | omega | (simp; first | done | omega) | assumption | (intro e9; have e8 := congrArg List.length e9; first | (simp at e8; done) | ((try simp only [List.length_map, List.length_append] at e8); rw [List.length_nil] at e8; omega))) ?_)); (first | refine h9 _ _ (arunU_slots (by first | (dsimp only [sput, sset]; done) | rfl) ?_)); clear h9 K9)
    | (refine arunU_end ?_)
    | (refine awp_seq fun K hK => ?_)
    | (refine awp_regionU ?_)
    | (refine hK _ _ ?_; clear hK K)
    | (refine awp_block ?_)
    | (refine awp_cond rfl (fun hcnd => ?_) (fun hcnd => ?_) <;> (try simp at hcnd) <;> (try contradiction) <;> (try (exfalso; omega)))
    | (refine awp_skip ?_)
    | (refine awp_exit ?_; simp only [athen_normal, athen_exit, athen_ret, ablock_self, ablock_ne, ablock_normal, ablock_ret, Nat.reduceBEq])
    | (refine awp_ret ?_; refine ret_go ?_)
    | (refine arunU_no ?_ ?_; (focus (simp [f8, f32, e0]; done)); refine arunU_slots (by first | (dsimp only [sput, sset]; done) | rfl) ?_)
    | (refine fall_go ?_)
    | (simp only [athen_normal, athen_exit, athen_ret, ablock_self, ablock_ne, ablock_normal, ablock_ret, Nat.reduceBEq])
    | (clear hK K; refine hK _ _ ?_; clear hK K)
    | (clear hK K; clear hK K; refine hK _ _ ?_; clear hK K)
    | (clear hK K; clear hK K; clear hK K; refine hK _ _ ?_; clear hK K)
    | (clear hK K; clear hK K; clear hK K; clear hK K; refine hK _ _ ?_; clear hK K)
    | (clear hK K; clear hK K; clear hK K; clear hK K; clear hK K; refine hK _ _ ?_; clear hK K))
    refine awp_loopU (α := Nat) (fun i => (none :: none :: some V.junk :: none :: some (V.bool (anyZ m i)) :: some (V.int .i64 i) :: some V.junk :: some V.junk :: some V.junk :: some V.junk :: some V.junk :: some V.junk :: some V.junk :: some V.junk :: some V.junk :: some V.junk :: some V.junk :: some V.junk :: some V.junk :: some V.junk :: some V.junk :: some V.junk :: some V.junk :: some V.junk :: some V.junk :: some V.junk :: some V.junk :: some V.junk :: some V.junk :: some V.junk :: some V.junk :: some V.junk :: some V.junk :: some V.junk :: some V.junk :: some V.junk :: some V.junk :: some V.junk :: some V.junk :: some V.junk :: some V.junk :: some V.junk :: some V.junk :: some V.junk :: some V.junk :: some V.junk :: some V.junk :: some V.junk :: some V.junk :: some V.junk :: some V.junk :: some V.junk :: some V.junk :: some V.junk :: some V.junk :: some V.junk :: some V.junk :: some V.junk :: some V.junk :: some V.junk :: some V.junk :: [])) (fun i => []) (fun i => i ≤ n ∧ ∀ j, j < i → okR a m j = true) (fun i => n - i) 0 ⟨by omega, fun j h => by omega⟩ ?_ ?_
    · dsimp only [ups_some, ups_none, ups_nil, ups_nil']
      exact Le.mk [] (by simp [anyZ]) (rowsRen_of (by simp) (by simp [rowsOver])) (by simp)
    rintro i ⟨hi, hall⟩ KL hL
    dsimp only [ups_some, ups_none, ups_nil, ups_nil']
    rcases Nat.lt_or_ge i n with hi | hi
    · have hstep : okR a m i = true → i + 1 ≤ n ∧ ∀ j, j < i + 1 → okR a m j = true := fun hx => ⟨by omega, fun j h => by
        rcases Nat.lt_or_ge j i with h3 | h3
        · exact hall j h3
        · obtain rfl : j = i := by omega
          exact hx⟩
      have hno : okR a m i = false → (List.range n).all (okR a m) = false := rangeAll_no hi
      have hz := anyZ_succ m i
      have hi8 : (i : Int) < 8 * h := by omega
      have hq1 : i / 8 < b.length := by omega
      have hq2 : h + i / 8 < b.length := by omega
      have e1 : ((i : Int) / 8).toNat = i / 8 := by omega
      have e2 : ((h : Int) + (i : Int) / 8).toNat = h + i / 8 := by omega
      obtain ⟨r, hr⟩ : ∃ r, i % 8 = r := ⟨_, rfl⟩
      have hr8 : r < 8 := by omega
      have e3 : (i : Int) % 8 = r := by omega
      have e4 : ((7 : Int) - r).toNat = 7 - r := by omega
      have e5 : min (7 - r) 8 = 7 - r := by omega
      obtain ⟨c, hc⟩ : ∃ c, b[h + i / 8] = c := ⟨_, rfl⟩
      obtain ⟨d, hd⟩ : ∃ c, b[i / 8] = c := ⟨_, rfl⟩
      have hb1 : bitB m i = (c.toNat / 2 ^ (7 - r) % 2 == 1) := by
        rw [bitB, hr, ← hm, List.getD_eq_getElem?_getD, List.getElem?_drop, List.getElem?_eq_getElem hq2, hc]; rfl
      have hb2 : bitB a i = (d.toNat / 2 ^ (7 - r) % 2 == 1) := by
        rw [bitB, hr, ← ha, List.getD_eq_getElem?_getD, List.getElem?_take, if_pos (by omega), List.getElem?_eq_getElem hq1, hd]; rfl
      have v1 := (bit_int c (7 - r)).trans hb1.symm
      have v2 := (bit_int d (7 - r)).trans hb2.symm
      clear hb1 hb2
      cases b1 : bitB m i <;> rw [b1] at v1 hz
      · cases b2 : bitB a i <;> rw [b2] at v2
        · cases b3 : anyZ m i <;> rw [b3] at hz
          · repeat' (first
    | ((first | refine arunU_go0 rfl fun K9 h9 => ?_ | (refine arunU_go ?_ ?_; (focus (simp [hi8, e1, e2, e3, e4, e5, hc, hd, v1, v2]; done)); intro K9 h9)); simp (disch := (first | (simp; done) | omega | (simp; omega))) [hi8, e1, e2, e3, e4, e5, hc, hd, v1, v2]; (try simp (disch := (first | omega | (simp; omega))) only [wrap_i64, wrap_u8, wrap_u32, wrap_u64, Int.tmod_eq_emod_of_nonneg, Int.tdiv_eq_ediv_of_nonneg]); (repeat (refine And.intro (by first | omega | (simp; first | done | omega) | assumption | (intro e9; have e8 := congrArg List.length e9; first | (simp at e8; done) | ((try simp only [List.length_map, List.length_append] at e8); rw [List.length_nil] at e8; omega))) ?_)); (first | refine h9 _ _ (arunU_slots (by first | (dsimp only [sput, sset]; done) | rfl) ?_)); clear h9 K9)
    | (refine arunU_end ?_)
    | (refine awp_seq fun K hK => ?_)
    | (refine awp_regionU ?_)
    | (refine hK _ _ ?_; clear hK K)
    | (refine awp_block ?_)
    | (refine awp_cond rfl (fun hcnd => ?_) (fun hcnd => ?_) <;> (try simp at hcnd) <;> (try contradiction) <;> (try (exfalso; omega)))
    | (refine awp_skip ?_)
    | (refine awp_exit ?_; simp only [athen_normal, athen_exit, athen_ret, ablock_self, ablock_ne, ablock_normal, ablock_ret, Nat.reduceBEq])
    | (refine awp_ret ?_; refine ret_go ?_)
    | (refine arunU_no ?_ ?_; (focus (simp [hi8, e1, e2, e3, e4, e5, hc, hd, v1, v2]; done)); refine arunU_slots (by first | (dsimp only [sput, sset]; done) | rfl) ?_)
    | (refine fall_go ?_)
    | (simp only [athen_normal, athen_exit, athen_ret, ablock_self, ablock_ne, ablock_normal, ablock_ret, Nat.reduceBEq])
    | (clear hK K; refine hK _ _ ?_; clear hK K)
    | (clear hK K; clear hK K; refine hK _ _ ?_; clear hK K)
    | (clear hK K; clear hK K; clear hK K; refine hK _ _ ?_; clear hK K)
    | (clear hK K; clear hK K; clear hK K; clear hK K; refine hK _ _ ?_; clear hK K)
    | (clear hK K; clear hK K; clear hK K; clear hK K; clear hK K; refine hK _ _ ?_; clear hK K))
            refine hL (i + 1) _ _ (hstep (by simp [okR, b1, b2])) (by omega) ?_
            rw [hz]
            exact Le.mk [] (by dsimp only [ups_some, ups_none, ups_nil, ups_nil']; simp) (rowsRen_of (by simp) (by simp [rowsOver])) (by simp)
          · repeat' (first
    | ((first | refine arunU_go0 rfl fun K9 h9 => ?_ | (refine arunU_go ?_ ?_; (focus (simp [hi8, e1, e2, e3, e4, e5, hc, hd, v1, v2]; done)); intro K9 h9)); simp (disch := (first | (simp; done) | omega | (simp; omega))) [hi8, e1, e2, e3, e4, e5, hc, hd, v1, v2]; (try simp (disch := (first | omega | (simp; omega))) only [wrap_i64, wrap_u8, wrap_u32, wrap_u64, Int.tmod_eq_emod_of_nonneg, Int.tdiv_eq_ediv_of_nonneg]); (repeat (refine And.intro (by first | omega | (simp; first | done | omega) | assumption | (intro e9; have e8 := congrArg List.length e9; first | (simp at e8; done) | ((try simp only [List.length_map, List.length_append] at e8); rw [List.length_nil] at e8; omega))) ?_)); (first | refine h9 _ _ (arunU_slots (by first | (dsimp only [sput, sset]; done) | rfl) ?_)); clear h9 K9)
    | (refine arunU_end ?_)
    | (refine awp_seq fun K hK => ?_)
    | (refine awp_regionU ?_)
    | (refine hK _ _ ?_; clear hK K)
    | (refine awp_block ?_)
    | (refine awp_cond rfl (fun hcnd => ?_) (fun hcnd => ?_) <;> (try simp at hcnd) <;> (try contradiction) <;> (try (exfalso; omega)))
    | (refine awp_skip ?_)
    | (refine awp_exit ?_; simp only [athen_normal, athen_exit, athen_ret, ablock_self, ablock_ne, ablock_normal, ablock_ret, Nat.reduceBEq])
    | (refine awp_ret ?_; refine ret_go ?_)
    | (refine arunU_no ?_ ?_; (focus (simp [hi8, e1, e2, e3, e4, e5, hc, hd, v1, v2]; done)); refine arunU_slots (by first | (dsimp only [sput, sset]; done) | rfl) ?_)
    | (refine fall_go ?_)
    | (simp only [athen_normal, athen_exit, athen_ret, ablock_self, ablock_ne, ablock_normal, ablock_ret, Nat.reduceBEq])
    | (clear hK K; refine hK _ _ ?_; clear hK K)
    | (clear hK K; clear hK K; refine hK _ _ ?_; clear hK K)
    | (clear hK K; clear hK K; clear hK K; refine hK _ _ ?_; clear hK K)
    | (clear hK K; clear hK K; clear hK K; clear hK K; refine hK _ _ ?_; clear hK K)
    | (clear hK K; clear hK K; clear hK K; clear hK K; clear hK K; refine hK _ _ ?_; clear hK K))
            refine hL (i + 1) _ _ (hstep (by simp [okR, b1, b2])) (by omega) ?_
            rw [hz]
            exact Le.mk [] (by dsimp only [ups_some, ups_none, ups_nil, ups_nil']; simp) (rowsRen_of (by simp) (by simp [rowsOver])) (by simp)
        · repeat' (first
    | ((first | refine arunU_go0 rfl fun K9 h9 => ?_ | (refine arunU_go ?_ ?_; (focus (simp [hi8, e1, e2, e3, e4, e5, hc, hd, v1, v2]; done)); intro K9 h9)); simp (disch := (first | (simp; done) | omega | (simp; omega))) [hi8, e1, e2, e3, e4, e5, hc, hd, v1, v2]; (try simp (disch := (first | omega | (simp; omega))) only [wrap_i64, wrap_u8, wrap_u32, wrap_u64, Int.tmod_eq_emod_of_nonneg, Int.tdiv_eq_ediv_of_nonneg]); (repeat (refine And.intro (by first | omega | (simp; first | done | omega) | assumption | (intro e9; have e8 := congrArg List.length e9; first | (simp at e8; done) | ((try simp only [List.length_map, List.length_append] at e8); rw [List.length_nil] at e8; omega))) ?_)); (first | refine h9 _ _ (arunU_slots (by first | (dsimp only [sput, sset]; done) | rfl) ?_)); clear h9 K9)
    | (refine arunU_end ?_)
    | (refine awp_seq fun K hK => ?_)
    | (refine awp_regionU ?_)
    | (refine hK _ _ ?_; clear hK K)
    | (refine awp_block ?_)
    | (refine awp_cond rfl (fun hcnd => ?_) (fun hcnd => ?_) <;> (try simp at hcnd) <;> (try contradiction) <;> (try (exfalso; omega)))
    | (refine awp_skip ?_)
    | (refine awp_exit ?_; simp only [athen_normal, athen_exit, athen_ret, ablock_self, ablock_ne, ablock_normal, ablock_ret, Nat.reduceBEq])
    | (refine awp_ret ?_; refine ret_go ?_)
    | (refine arunU_no ?_ ?_; (focus (simp [hi8, e1, e2, e3, e4, e5, hc, hd, v1, v2]; done)); refine arunU_slots (by first | (dsimp only [sput, sset]; done) | rfl) ?_)
    | (refine fall_go ?_)
    | (simp only [athen_normal, athen_exit, athen_ret, ablock_self, ablock_ne, ablock_normal, ablock_ret, Nat.reduceBEq])
    | (clear hK K; refine hK _ _ ?_; clear hK K)
    | (clear hK K; clear hK K; refine hK _ _ ?_; clear hK K)
    | (clear hK K; clear hK K; clear hK K; refine hK _ _ ?_; clear hK K)
    | (clear hK K; clear hK K; clear hK K; clear hK K; refine hK _ _ ?_; clear hK K)
    | (clear hK K; clear hK K; clear hK K; clear hK K; clear hK K; refine hK _ _ ?_; clear hK K))
          rw [hno (by simp [okR, b1, b2])]
          exact .pure .bool
      · cases b2 : anyZ m i <;> rw [b2] at hz
        · repeat' (first
    | ((first | refine arunU_go0 rfl fun K9 h9 => ?_ | (refine arunU_go ?_ ?_; (focus (simp [hi8, e1, e2, e3, e4, e5, hc, hd, v1]; done)); intro K9 h9)); simp (disch := (first | (simp; done) | omega | (simp; omega))) [hi8, e1, e2, e3, e4, e5, hc, hd, v1]; (try simp (disch := (first | omega | (simp; omega))) only [wrap_i64, wrap_u8, wrap_u32, wrap_u64, Int.tmod_eq_emod_of_nonneg, Int.tdiv_eq_ediv_of_nonneg]); (repeat (refine And.intro (by first | omega | (simp; first | done | omega) | assumption | (intro e9; have e8 := congrArg List.length e9; first | (simp at e8; done) | ((try simp only [List.length_map, List.length_append] at e8); rw [List.length_nil] at e8; omega))) ?_)); (first | refine h9 _ _ (arunU_slots (by first | (dsimp only [sput, sset]; done) | rfl) ?_)); clear h9 K9)
    | (refine arunU_end ?_)
    | (refine awp_seq fun K hK => ?_)
    | (refine awp_regionU ?_)
    | (refine hK _ _ ?_; clear hK K)
    | (refine awp_block ?_)
    | (refine awp_cond rfl (fun hcnd => ?_) (fun hcnd => ?_) <;> (try simp at hcnd) <;> (try contradiction) <;> (try (exfalso; omega)))
    | (refine awp_skip ?_)
    | (refine awp_exit ?_; simp only [athen_normal, athen_exit, athen_ret, ablock_self, ablock_ne, ablock_normal, ablock_ret, Nat.reduceBEq])
    | (refine awp_ret ?_; refine ret_go ?_)
    | (refine arunU_no ?_ ?_; (focus (simp [hi8, e1, e2, e3, e4, e5, hc, hd, v1]; done)); refine arunU_slots (by first | (dsimp only [sput, sset]; done) | rfl) ?_)
    | (refine fall_go ?_)
    | (simp only [athen_normal, athen_exit, athen_ret, ablock_self, ablock_ne, ablock_normal, ablock_ret, Nat.reduceBEq])
    | (clear hK K; refine hK _ _ ?_; clear hK K)
    | (clear hK K; clear hK K; refine hK _ _ ?_; clear hK K)
    | (clear hK K; clear hK K; clear hK K; refine hK _ _ ?_; clear hK K)
    | (clear hK K; clear hK K; clear hK K; clear hK K; refine hK _ _ ?_; clear hK K)
    | (clear hK K; clear hK K; clear hK K; clear hK K; clear hK K; refine hK _ _ ?_; clear hK K))
          refine hL (i + 1) _ _ (hstep (by simp [okR, b1, b2])) (by omega) ?_
          rw [hz]
          exact Le.mk [] (by dsimp only [ups_some, ups_none, ups_nil, ups_nil']; simp) (rowsRen_of (by simp) (by simp [rowsOver])) (by simp)
        · repeat' (first
    | ((first | refine arunU_go0 rfl fun K9 h9 => ?_ | (refine arunU_go ?_ ?_; (focus (simp [hi8, e1, e2, e3, e4, e5, hc, hd, v1]; done)); intro K9 h9)); simp (disch := (first | (simp; done) | omega | (simp; omega))) [hi8, e1, e2, e3, e4, e5, hc, hd, v1]; (try simp (disch := (first | omega | (simp; omega))) only [wrap_i64, wrap_u8, wrap_u32, wrap_u64, Int.tmod_eq_emod_of_nonneg, Int.tdiv_eq_ediv_of_nonneg]); (repeat (refine And.intro (by first | omega | (simp; first | done | omega) | assumption | (intro e9; have e8 := congrArg List.length e9; first | (simp at e8; done) | ((try simp only [List.length_map, List.length_append] at e8); rw [List.length_nil] at e8; omega))) ?_)); (first | refine h9 _ _ (arunU_slots (by first | (dsimp only [sput, sset]; done) | rfl) ?_)); clear h9 K9)
    | (refine arunU_end ?_)
    | (refine awp_seq fun K hK => ?_)
    | (refine awp_regionU ?_)
    | (refine hK _ _ ?_; clear hK K)
    | (refine awp_block ?_)
    | (refine awp_cond rfl (fun hcnd => ?_) (fun hcnd => ?_) <;> (try simp at hcnd) <;> (try contradiction) <;> (try (exfalso; omega)))
    | (refine awp_skip ?_)
    | (refine awp_exit ?_; simp only [athen_normal, athen_exit, athen_ret, ablock_self, ablock_ne, ablock_normal, ablock_ret, Nat.reduceBEq])
    | (refine awp_ret ?_; refine ret_go ?_)
    | (refine arunU_no ?_ ?_; (focus (simp [hi8, e1, e2, e3, e4, e5, hc, hd, v1]; done)); refine arunU_slots (by first | (dsimp only [sput, sset]; done) | rfl) ?_)
    | (refine fall_go ?_)
    | (simp only [athen_normal, athen_exit, athen_ret, ablock_self, ablock_ne, ablock_normal, ablock_ret, Nat.reduceBEq])
    | (clear hK K; refine hK _ _ ?_; clear hK K)
    | (clear hK K; clear hK K; refine hK _ _ ?_; clear hK K)
    | (clear hK K; clear hK K; clear hK K; refine hK _ _ ?_; clear hK K)
    | (clear hK K; clear hK K; clear hK K; clear hK K; refine hK _ _ ?_; clear hK K)
    | (clear hK K; clear hK K; clear hK K; clear hK K; clear hK K; refine hK _ _ ?_; clear hK K))
          rw [hno (by simp [okR, b1, b2])]
          exact .pure .bool
    · have hi8 : ¬ (i : Int) < 8 * h := by omega
      repeat' (first
    | ((first | refine arunU_go0 rfl fun K9 h9 => ?_ | (refine arunU_go ?_ ?_; (focus (simp [hi8]; done)); intro K9 h9)); simp (disch := (first | (simp; done) | omega | (simp; omega))) [hi8]; (try simp (disch := (first | omega | (simp; omega))) only [wrap_i64, wrap_u8, wrap_u32, wrap_u64, Int.tmod_eq_emod_of_nonneg, Int.tdiv_eq_ediv_of_nonneg]); (repeat (refine And.intro (by first | omega | (simp; first | done | omega) | assumption | (intro e9; have e8 := congrArg List.length e9; first | (simp at e8; done) | ((try simp only [List.length_map, List.length_append] at e8); rw [List.length_nil] at e8; omega))) ?_)); (first | refine h9 _ _ (arunU_slots (by first | (dsimp only [sput, sset]; done) | rfl) ?_)); clear h9 K9)
    | (refine arunU_end ?_)
    | (refine awp_seq fun K hK => ?_)
    | (refine awp_regionU ?_)
    | (refine hK _ _ ?_; clear hK K)
    | (refine awp_block ?_)
    | (refine awp_cond rfl (fun hcnd => ?_) (fun hcnd => ?_) <;> (try simp at hcnd) <;> (try contradiction) <;> (try (exfalso; omega)))
    | (refine awp_skip ?_)
    | (refine awp_exit ?_; simp only [athen_normal, athen_exit, athen_ret, ablock_self, ablock_ne, ablock_normal, ablock_ret, Nat.reduceBEq])
    | (refine awp_ret ?_; refine ret_go ?_)
    | (refine arunU_no ?_ ?_; (focus (simp [hi8]; done)); refine arunU_slots (by first | (dsimp only [sput, sset]; done) | rfl) ?_)
    | (refine fall_go ?_)
    | (simp only [athen_normal, athen_exit, athen_ret, ablock_self, ablock_ne, ablock_normal, ablock_ret, Nat.reduceBEq])
    | (clear hK K; refine hK _ _ ?_; clear hK K)
    | (clear hK K; clear hK K; refine hK _ _ ?_; clear hK K)
    | (clear hK K; clear hK K; clear hK K; refine hK _ _ ?_; clear hK K)
    | (clear hK K; clear hK K; clear hK K; clear hK K; refine hK _ _ ?_; clear hK K)
    | (clear hK K; clear hK K; clear hK K; clear hK K; clear hK K; refine hK _ _ ?_; clear hK K))
      rw [rangeAll_yes fun j hj => hall j (by omega)]
      exact .pure .bool
  by_cases h32 : b.length = 32
  · rw [rng_32 h32]
    obtain ⟨h, hh⟩ : ∃ h, 16 = h := ⟨_, rfl⟩
    rw [show rngH b 16 = rngH b h by rw [hh]]
    unfold rngH
    obtain ⟨n, hn⟩ : ∃ n, 8 * h = n := ⟨_, rfl⟩
    rw [hn]
    have f8 : ((b.length : Int) != 8) = true := by rw [h32]; rfl
    have f32 : ((b.length : Int) != 32) = false := by rw [h32]; rfl
    have hbl : b.length = 2 * h := by omega
    have e0 : (b.length : Int) / 2 = h := by omega
    have hh2 : h ≤ 16 := by omega
    clear hh h32
    obtain ⟨a, ha⟩ : ∃ a, b.take h = a := ⟨_, rfl⟩
    obtain ⟨m, hm⟩ : ∃ a, b.drop h = a := ⟨_, rfl⟩
    rw [ha, hm]
    repeat' (first
    | ((first | refine arunU_go0 rfl fun K9 h9 => ?_ | (refine arunU_go ?_ ?_; (focus (simp [f8, f32, e0]; done)); intro K9 h9)); simp (disch := (first | (simp; done) | omega | (simp; omega))) [f8, f32, e0]; (try simp (disch := (first | omega | (simp; omega))) only [wrap_i64, wrap_u8, wrap_u32, wrap_u64, Int.tmod_eq_emod_of_nonneg, Int.tdiv_eq_ediv_of_nonneg]); (repeat (refine And.intro (by first | omega | (simp; first | done | omega) | assumption | (intro e9; have e8 := congrArg List.length e9; first | (simp at e8; done) | ((try simp only [List.length_map, List.length_append] at e8); rw [List.length_nil] at e8; omega))) ?_)); (first | refine h9 _ _ (arunU_slots (by first | (dsimp only [sput, sset]; done) | rfl) ?_)); clear h9 K9)
    | (refine arunU_end ?_)
    | (refine awp_seq fun K hK => ?_)
    | (refine awp_regionU ?_)
    | (refine hK _ _ ?_; clear hK K)
    | (refine awp_block ?_)
    | (refine awp_cond rfl (fun hcnd => ?_) (fun hcnd => ?_) <;> (try simp at hcnd) <;> (try contradiction) <;> (try (exfalso; omega)))
    | (refine awp_skip ?_)
    | (refine awp_exit ?_; simp only [athen_normal, athen_exit, athen_ret, ablock_self, ablock_ne, ablock_normal, ablock_ret, Nat.reduceBEq])
    | (refine awp_ret ?_; refine ret_go ?_)
    | (refine arunU_no ?_ ?_; (focus (simp [f8, f32, e0]; done)); refine arunU_slots (by first | (dsimp only [sput, sset]; done) | rfl) ?_)
    | (refine fall_go ?_)
    | (simp only [athen_normal, athen_exit, athen_ret, ablock_self, ablock_ne, ablock_normal, ablock_ret, Nat.reduceBEq])
    | (clear hK K; refine hK _ _ ?_; clear hK K)
    | (clear hK K; clear hK K; refine hK _ _ ?_; clear hK K)
    | (clear hK K; clear hK K; clear hK K; refine hK _ _ ?_; clear hK K)
    | (clear hK K; clear hK K; clear hK K; clear hK K; refine hK _ _ ?_; clear hK K)
    | (clear hK K; clear hK K; clear hK K; clear hK K; clear hK K; refine hK _ _ ?_; clear hK K))
    refine awp_loopU (α := Nat) (fun i => (none :: none :: some V.junk :: none :: some (V.bool (anyZ m i)) :: some (V.int .i64 i) :: some V.junk :: some V.junk :: some V.junk :: some V.junk :: some V.junk :: some V.junk :: some V.junk :: some V.junk :: some V.junk :: some V.junk :: some V.junk :: some V.junk :: some V.junk :: some V.junk :: some V.junk :: some V.junk :: some V.junk :: some V.junk :: some V.junk :: some V.junk :: some V.junk :: some V.junk :: some V.junk :: some V.junk :: some V.junk :: some V.junk :: some V.junk :: some V.junk :: some V.junk :: some V.junk :: some V.junk :: some V.junk :: some V.junk :: some V.junk :: some V.junk :: some V.junk :: some V.junk :: some V.junk :: some V.junk :: some V.junk :: some V.junk :: some V.junk :: some V.junk :: some V.junk :: some V.junk :: some V.junk :: some V.junk :: some V.junk :: some V.junk :: some V.junk :: some V.junk :: some V.junk :: some V.junk :: some V.junk :: some V.junk :: [])) (fun i => []) (fun i => i ≤ n ∧ ∀ j, j < i → okR a m j = true) (fun i => n - i) 0 ⟨by omega, fun j h => by omega⟩ ?_ ?_
    · dsimp only [ups_some, ups_none, ups_nil, ups_nil']
      exact Le.mk [] (by simp [anyZ]) (rowsRen_of (by simp) (by simp [rowsOver])) (by simp)
    rintro i ⟨hi, hall⟩ KL hL
    dsimp only [ups_some, ups_none, ups_nil, ups_nil']
    rcases Nat.lt_or_ge i n with hi | hi
    · have hstep : okR a m i = true → i + 1 ≤ n ∧ ∀ j, j < i + 1 → okR a m j = true := fun hx => ⟨by omega, fun j h => by
        rcases Nat.lt_or_ge j i with h3 | h3
        · exact hall j h3
        · obtain rfl : j = i := by omega
          exact hx⟩
      have hno : okR a m i = false → (List.range n).all (okR a m) = false := rangeAll_no hi
      have hz := anyZ_succ m i
      have hi8 : (i : Int) < 8 * h := by omega
      have hq1 : i / 8 < b.length := by omega
      have hq2 : h + i / 8 < b.length := by omega
      have e1 : ((i : Int) / 8).toNat = i / 8 := by omega
      have e2 : ((h : Int) + (i : Int) / 8).toNat = h + i / 8 := by omega
      obtain ⟨r, hr⟩ : ∃ r, i % 8 = r := ⟨_, rfl⟩
      have hr8 : r < 8 := by omega
      have e3 : (i : Int) % 8 = r := by omega
      have e4 : ((7 : Int) - r).toNat = 7 - r := by omega
      have e5 : min (7 - r) 8 = 7 - r := by omega
      obtain ⟨c, hc⟩ : ∃ c, b[h + i / 8] = c := ⟨_, rfl⟩
      obtain ⟨d, hd⟩ : ∃ c, b[i / 8] = c := ⟨_, rfl⟩
      have hb1 : bitB m i = (c.toNat / 2 ^ (7 - r) % 2 == 1) := by
        rw [bitB, hr, ← hm, List.getD_eq_getElem?_getD, List.getElem?_drop, List.getElem?_eq_getElem hq2, hc]; rfl
      have hb2 : bitB a i = (d.toNat / 2 ^ (7 - r) % 2 == 1) := by
        rw [bitB, hr, ← ha, List.getD_eq_getElem?_getD, List.getElem?_take, if_pos (by omega), List.getElem?_eq_getElem hq1, hd]; rfl
      have v1 := (bit_int c (7 - r)).trans hb1.symm
      have v2 := (bit_int d (7 - r)).trans hb2.symm
      clear hb1 hb2
      cases b1 : bitB m i <;> rw [b1] at v1 hz
      · cases b2 : bitB a i <;> rw [b2] at v2
        · cases b3 : anyZ m i <;> rw [b3] at hz
          · repeat' (first
    | ((first | refine arunU_go0 rfl fun K9 h9 => ?_ | (refine arunU_go ?_ ?_; (focus (simp [hi8, e1, e2, e3, e4, e5, hc, hd, v1, v2]; done)); intro K9 h9)); simp (disch := (first | (simp; done) | omega | (simp; omega))) [hi8, e1, e2, e3, e4, e5, hc, hd, v1, v2]; (try simp (disch := (first | omega | (simp; omega))) only [wrap_i64, wrap_u8, wrap_u32, wrap_u64, Int.tmod_eq_emod_of_nonneg, Int.tdiv_eq_ediv_of_nonneg]); (repeat (refine And.intro (by first | omega | (simp; first | done | omega) | assumption | (intro e9; have e8 := congrArg List.length e9; first | (simp at e8; done) | ((try simp only [List.length_map, List.length_append] at e8); rw [List.length_nil] at e8; omega))) ?_)); (first | refine h9 _ _ (arunU_slots (by first | (dsimp only [sput, sset]; done) | rfl) ?_)); clear h9 K9)
    | (refine arunU_end ?_)
    | (refine awp_seq fun K hK => ?_)
    | (refine awp_regionU ?_)
    | (refine hK _ _ ?_; clear hK K)
    | (refine awp_block ?_)
    | (refine awp_cond rfl (fun hcnd => ?_) (fun hcnd => ?_) <;> (try simp at hcnd) <;> (try contradiction) <;> (try (exfalso; omega)))
    | (refine awp_skip ?_)
    | (refine awp_exit ?_; simp only [athen_normal, athen_exit, athen_ret, ablock_self, ablock_ne, ablock_normal, ablock_ret, Nat.reduceBEq])
    | (refine awp_ret ?_; refine ret_go ?_)
    | (refine arunU_no ?_ ?_; (focus (simp [hi8, e1, e2, e3, e4, e5, hc, hd, v1, v2]; done)); refine arunU_slots (by first | (dsimp only [sput, sset]; done) | rfl) ?_)
    | (refine fall_go ?_)
    | (simp only [athen_normal, athen_exit, athen_ret, ablock_self, ablock_ne, ablock_normal, ablock_ret, Nat.reduceBEq])
    | (clear hK K; refine hK _ _ ?_; clear hK K)
    | (clear hK K; clear hK K; refine hK _ _ ?_; clear hK K)
    | (clear hK K; clear hK K; clear hK K; refine hK _ _ ?_; clear hK K)
    | (clear hK K; clear hK K; clear hK K; clear hK K; refine hK _ _ ?_; clear hK K)
    | (clear hK K; clear hK K; clear hK K; clear hK K; clear hK K; refine hK _ _ ?_; clear hK K))
            refine hL (i + 1) _ _ (hstep (by simp [okR, b1, b2])) (by omega) ?_
            rw [hz]
            exact Le.mk [] (by dsimp only [ups_some, ups_none, ups_nil, ups_nil']; simp) (rowsRen_of (by simp) (by simp [rowsOver])) (by simp)
          · repeat' (first
    | ((first | refine arunU_go0 rfl fun K9 h9 => ?_ | (refine arunU_go ?_ ?_; (focus (simp [hi8, e1, e2, e3, e4, e5, hc, hd, v1, v2]; done)); intro K9 h9)); simp (disch := (first | (simp; done) | omega | (simp; omega))) [hi8, e1, e2, e3, e4, e5, hc, hd, v1, v2]; (try simp (disch := (first | omega | (simp; omega))) only [wrap_i64, wrap_u8, wrap_u32, wrap_u64, Int.tmod_eq_emod_of_nonneg, Int.tdiv_eq_ediv_of_nonneg]); (repeat (refine And.intro (by first | omega | (simp; first | done | omega) | assumption | (intro e9; have e8 := congrArg List.length e9; first | (simp at e8; done) | ((try simp only [List.length_map, List.length_append] at e8); rw [List.length_nil] at e8; omega))) ?_)); (first | refine h9 _ _ (arunU_slots (by first | (dsimp only [sput, sset]; done) | rfl) ?_)); clear h9 K9)
    | (refine arunU_end ?_)
    | (refine awp_seq fun K hK => ?_)
    | (refine awp_regionU ?_)
    | (refine hK _ _ ?_; clear hK K)
    | (refine awp_block ?_)
    | (refine awp_cond rfl (fun hcnd => ?_) (fun hcnd => ?_) <;> (try simp at hcnd) <;> (try contradiction) <;> (try (exfalso; omega)))
    | (refine awp_skip ?_)
    | (refine awp_exit ?_; simp only [athen_normal, athen_exit, athen_ret, ablock_self, ablock_ne, ablock_normal, ablock_ret, Nat.reduceBEq])
    | (refine awp_ret ?_; refine ret_go ?_)
    | (refine arunU_no ?_ ?_; (focus (simp [hi8, e1, e2, e3, e4, e5, hc, hd, v1, v2]; done)); refine arunU_slots (by first | (dsimp only [sput, sset]; done) | rfl) ?_)
    | (refine fall_go ?_)
    | (simp only [athen_normal, athen_exit, athen_ret, ablock_self, ablock_ne, ablock_normal, ablock_ret, Nat.reduceBEq])
    | (clear hK K; refine hK _ _ ?_; clear hK K)
    | (clear hK K; clear hK K; refine hK _ _ ?_; clear hK K)
    | (clear hK K; clear hK K; clear hK K; refine hK _ _ ?_; clear hK K)
    | (clear hK K; clear hK K; clear hK K; clear hK K; refine hK _ _ ?_; clear hK K)
    | (clear hK K; clear hK K; clear hK K; clear hK K; clear hK K; refine hK _ _ ?_; clear hK K))
            refine hL (i + 1) _ _ (hstep (by simp [okR, b1, b2])) (by omega) ?_
            rw [hz]
            exact Le.mk [] (by dsimp only [ups_some, ups_none, ups_nil, ups_nil']; simp) (rowsRen_of (by simp) (by simp [rowsOver])) (by simp)
        · repeat' (first
    | ((first | refine arunU_go0 rfl fun K9 h9 => ?_ | (refine arunU_go ?_ ?_; (focus (simp [hi8, e1, e2, e3, e4, e5, hc, hd, v1, v2]; done)); intro K9 h9)); simp (disch := (first | (simp; done) | omega | (simp; omega))) [hi8, e1, e2, e3, e4, e5, hc, hd, v1, v2]; (try simp (disch := (first | omega | (simp; omega))) only [wrap_i64, wrap_u8, wrap_u32, wrap_u64, Int.tmod_eq_emod_of_nonneg, Int.tdiv_eq_ediv_of_nonneg]); (repeat (refine And.intro (by first | omega | (simp; first | done | omega) | assumption | (intro e9; have e8 := congrArg List.length e9; first | (simp at e8; done) | ((try simp only [List.length_map, List.length_append] at e8); rw [List.length_nil] at e8; omega))) ?_)); (first | refine h9 _ _ (arunU_slots (by first | (dsimp only [sput, sset]; done) | rfl) ?_)); clear h9 K9)
    | (refine arunU_end ?_)
    | (refine awp_seq fun K hK => ?_)
    | (refine awp_regionU ?_)
    | (refine hK _ _ ?_; clear hK K)
    | (refine awp_block ?_)
    | (refine awp_cond rfl (fun hcnd => ?_) (fun hcnd => ?_) <;> (try simp at hcnd) <;> (try contradiction) <;> (try (exfalso; omega)))
    | (refine awp_skip ?_)
    | (refine awp_exit ?_; simp only [athen_normal, athen_exit, athen_ret, ablock_self, ablock_ne, ablock_normal, ablock_ret, Nat.reduceBEq])
    | (refine awp_ret ?_; refine ret_go ?_)
    | (refine arunU_no ?_ ?_; (focus (simp [hi8, e1, e2, e3, e4, e5, hc, hd, v1, v2]; done)); refine arunU_slots (by first | (dsimp only [sput, sset]; done) | rfl) ?_)
    | (refine fall_go ?_)
    | (simp only [athen_normal, athen_exit, athen_ret, ablock_self, ablock_ne, ablock_normal, ablock_ret, Nat.reduceBEq])
    | (clear hK K; refine hK _ _ ?_; clear hK K)
    | (clear hK K; clear hK K; refine hK _ _ ?_; clear hK K)
    | (clear hK K; clear hK K; clear hK K; refine hK _ _ ?_; clear hK K)
    | (clear hK K; clear hK K; clear hK K; clear hK K; refine hK _ _ ?_; clear hK K)
    | (clear hK K; clear hK K; clear hK K; clear hK K; clear hK K; refine hK _ _ ?_; clear hK K))
          rw [hno (by simp [okR, b1, b2])]
          exact .pure .bool
      · cases b2 : anyZ m i <;> rw [b2] at hz
        · repeat' (first
    | ((first | refine arunU_go0 rfl fun K9 h9 => ?_ | (refine arunU_go ?_ ?_; (focus (simp [hi8, e1, e2, e3, e4, e5, hc, hd, v1]; done)); intro K9 h9)); simp (disch := (first | (simp; done) | omega | (simp; omega))) [hi8, e1, e2, e3, e4, e5, hc, hd, v1]; (try simp (disch := (first | omega | (simp; omega))) only [wrap_i64, wrap_u8, wrap_u32, wrap_u64, Int.tmod_eq_emod_of_nonneg, Int.tdiv_eq_ediv_of_nonneg]); (repeat (refine And.intro (by first | omega | (simp; first | done | omega) | assumption | (intro e9; have e8 := congrArg List.length e9; first | (simp at e8; done) | ((try simp only [List.length_map, List.length_append] at e8); rw [List.length_nil] at e8; omega))) ?_)); (first | refine h9 _ _ (arunU_slots (by first | (dsimp only [sput, sset]; done) | rfl) ?_)); clear h9 K9)
    | (refine arunU_end ?_)
    | (refine awp_seq fun K hK => ?_)
    | (refine awp_regionU ?_)
    | (refine hK _ _ ?_; clear hK K)
    | (refine awp_block ?_)
    | (refine awp_cond rfl (fun hcnd => ?_) (fun hcnd => ?_) <;> (try simp at hcnd) <;> (try contradiction) <;> (try (exfalso; omega)))
    | (refine awp_skip ?_)
    | (refine awp_exit ?_; simp only [athen_normal, athen_exit, athen_ret, ablock_self, ablock_ne, ablock_normal, ablock_ret, Nat.reduceBEq])
    | (refine awp_ret ?_; refine ret_go ?_)
    | (refine arunU_no ?_ ?_; (focus (simp [hi8, e1, e2, e3, e4, e5, hc, hd, v1]; done)); refine arunU_slots (by first | (dsimp only [sput, sset]; done) | rfl) ?_)
    | (refine fall_go ?_)
    | (simp only [athen_normal, athen_exit, athen_ret, ablock_self, ablock_ne, ablock_normal, ablock_ret, Nat.reduceBEq])
    | (clear hK K; refine hK _ _ ?_; clear hK K)
    | (clear hK K; clear hK K; refine hK _ _ ?_; clear hK K)
    | (clear hK K; clear hK K; clear hK K; refine hK _ _ ?_; clear hK K)
    | (clear hK K; clear hK K; clear hK K; clear hK K; refine hK _ _ ?_; clear hK K)
    | (clear hK K; clear hK K; clear hK K; clear hK K; clear hK K; refine hK _ _ ?_; clear hK K))
          refine hL (i + 1) _ _ (hstep (by simp [okR, b1, b2])) (by omega) ?_
          rw [hz]
          exact Le.mk [] (by dsimp only [ups_some, ups_none, ups_nil, ups_nil']; simp) (rowsRen_of (by simp) (by simp [rowsOver])) (by simp)
        · repeat' (first
    | ((first | refine arunU_go0 rfl fun K9 h9 => ?_ | (refine arunU_go ?_ ?_; (focus (simp [hi8, e1, e2, e3, e4, e5, hc, hd, v1]; done)); intro K9 h9)); simp (disch := (first | (simp; done) | omega | (simp; omega))) [hi8, e1, e2, e3, e4, e5, hc, hd, v1]; (try simp (disch := (first | omega | (simp; omega))) only [wrap_i64, wrap_u8, wrap_u32, wrap_u64, Int.tmod_eq_emod_of_nonneg, Int.tdiv_eq_ediv_of_nonneg]); (repeat (refine And.intro (by first | omega | (simp; first | done | omega) | assumption | (intro e9; have e8 := congrArg List.length e9; first | (simp at e8; done) | ((try simp only [List.length_map, List.length_append] at e8); rw [List.length_nil] at e8; omega))) ?_)); (first | refine h9 _ _ (arunU_slots (by first | (dsimp only [sput, sset]; done) | rfl) ?_)); clear h9 K9)
    | (refine arunU_end ?_)
    | (refine awp_seq fun K hK => ?_)
    | (refine awp_regionU ?_)
    | (refine hK _ _ ?_; clear hK K)
    | (refine awp_block ?_)
    | (refine awp_cond rfl (fun hcnd => ?_) (fun hcnd => ?_) <;> (try simp at hcnd) <;> (try contradiction) <;> (try (exfalso; omega)))
    | (refine awp_skip ?_)
    | (refine awp_exit ?_; simp only [athen_normal, athen_exit, athen_ret, ablock_self, ablock_ne, ablock_normal, ablock_ret, Nat.reduceBEq])
    | (refine awp_ret ?_; refine ret_go ?_)
    | (refine arunU_no ?_ ?_; (focus (simp [hi8, e1, e2, e3, e4, e5, hc, hd, v1]; done)); refine arunU_slots (by first | (dsimp only [sput, sset]; done) | rfl) ?_)
    | (refine fall_go ?_)
    | (simp only [athen_normal, athen_exit, athen_ret, ablock_self, ablock_ne, ablock_normal, ablock_ret, Nat.reduceBEq])
    | (clear hK K; refine hK _ _ ?_; clear hK K)
    | (clear hK K; clear hK K; refine hK _ _ ?_; clear hK K)
    | (clear hK K; clear hK K; clear hK K; refine hK _ _ ?_; clear hK K)
    | (clear hK K; clear hK K; clear hK K; clear hK K; refine hK _ _ ?_; clear hK K)
    | (clear hK K; clear hK K; clear hK K; clear hK K; clear hK K; refine hK _ _ ?_; clear hK K))
          rw [hno (by simp [okR, b1, b2])]
          exact .pure .bool
    · have hi8 : ¬ (i : Int) < 8 * h := by omega
      repeat' (first
    | ((first | refine arunU_go0 rfl fun K9 h9 => ?_ | (refine arunU_go ?_ ?_; (focus (simp [hi8]; done)); intro K9 h9)); simp (disch := (first | (simp; done) | omega | (simp; omega))) [hi8]; (try simp (disch := (first | omega | (simp; omega))) only [wrap_i64, wrap_u8, wrap_u32, wrap_u64, Int.tmod_eq_emod_of_nonneg, Int.tdiv_eq_ediv_of_nonneg]); (repeat (refine And.intro (by first | omega | (simp; first | done | omega) | assumption | (intro e9; have e8 := congrArg List.length e9; first | (simp at e8; done) | ((try simp only [List.length_map, List.length_append] at e8); rw [List.length_nil] at e8; omega))) ?_)); (first | refine h9 _ _ (arunU_slots (by first | (dsimp only [sput, sset]; done) | rfl) ?_)); clear h9 K9)
    | (refine arunU_end ?_)
    | (refine awp_seq fun K hK => ?_)
    | (refine awp_regionU ?_)
    | (refine hK _ _ ?_; clear hK K)
    | (refine awp_block ?_)
    | (refine awp_cond rfl (fun hcnd => ?_) (fun hcnd => ?_) <;> (try simp at hcnd) <;> (try contradiction) <;> (try (exfalso; omega)))
    | (refine awp_skip ?_)
    | (refine awp_exit ?_; simp only [athen_normal, athen_exit, athen_ret, ablock_self, ablock_ne, ablock_normal, ablock_ret, Nat.reduceBEq])
    | (refine awp_ret ?_; refine ret_go ?_)
    | (refine arunU_no ?_ ?_; (focus (simp [hi8]; done)); refine arunU_slots (by first | (dsimp only [sput, sset]; done) | rfl) ?_)
    | (refine fall_go ?_)
    | (simp only [athen_normal, athen_exit, athen_ret, ablock_self, ablock_ne, ablock_normal, ablock_ret, Nat.reduceBEq])
    | (clear hK K; refine hK _ _ ?_; clear hK K)
    | (clear hK K; clear hK K; refine hK _ _ ?_; clear hK K)
    | (clear hK K; clear hK K; clear hK K; refine hK _ _ ?_; clear hK K)
    | (clear hK K; clear hK K; clear hK K; clear hK K; refine hK _ _ ?_; clear hK K)
    | (clear hK K; clear hK K; clear hK K; clear hK K; clear hK K; refine hK _ _ ?_; clear hK K))
      rw [rangeAll_yes fun j hj => hall j (by omega)]
      exact .pure .bool
  · have h8' : ¬ (b.length : Int) = 8 := by omega
    have h32' : ¬ (b.length : Int) = 32 := by omega
    rw [rng_no h8 h32]
    repeat' (first
    | ((first | refine arunU_go0 rfl fun K9 h9 => ?_ | (refine arunU_go ?_ ?_; (focus (simp [h8', h32']; done)); intro K9 h9)); simp (disch := (first | (simp; done) | omega | (simp; omega))) [h8', h32']; (try simp (disch := (first | omega | (simp; omega))) only [wrap_i64, wrap_u8, wrap_u32, wrap_u64, Int.tmod_eq_emod_of_nonneg, Int.tdiv_eq_ediv_of_nonneg]); (repeat (refine And.intro (by first | omega | (simp; first | done | omega) | assumption | (intro e9; have e8 := congrArg List.length e9; first | (simp at e8; done) | ((try simp only [List.length_map, List.length_append] at e8); rw [List.length_nil] at e8; omega))) ?_)); (first | refine h9 _ _ (arunU_slots (by first | (dsimp only [sput, sset]; done) | rfl) ?_)); clear h9 K9)
    | (refine arunU_end ?_)
    | (refine awp_seq fun K hK => ?_)
    | (refine awp_regionU ?_)
    | (refine hK _ _ ?_; clear hK K)
    | (refine awp_block ?_)
    | (refine awp_cond rfl (fun hcnd => ?_) (fun hcnd => ?_) <;> (try simp at hcnd) <;> (try contradiction) <;> (try (exfalso; omega)))
    | (refine awp_skip ?_)
    | (refine awp_exit ?_; simp only [athen_normal, athen_exit, athen_ret, ablock_self, ablock_ne, ablock_normal, ablock_ret, Nat.reduceBEq])
    | (refine awp_ret ?_; refine ret_go ?_)
    | (refine arunU_no ?_ ?_; (focus (simp [h8', h32']; done)); refine arunU_slots (by first | (dsimp only [sput, sset]; done) | rfl) ?_)
    | (refine fall_go ?_)
    | (simp only [athen_normal, athen_exit, athen_ret, ablock_self, ablock_ne, ablock_normal, ablock_ret, Nat.reduceBEq])
    | (clear hK K; refine hK _ _ ?_; clear hK K)
    | (clear hK K; clear hK K; refine hK _ _ ?_; clear hK K)
    | (clear hK K; clear hK K; clear hK K; refine hK _ _ ?_; clear hK K)
    | (clear hK K; clear hK K; clear hK K; clear hK K; refine hK _ _ ?_; clear hK K)
    | (clear hK K; clear hK K; clear hK K; clear hK K; clear hK K; refine hK _ _ ?_; clear hK K))
    exact .pure .bool
  · exact .bool
end Go.Proofs.YtegmenlonpgnpaaDoor
