/-
  HOST: AddressWithin by the definition.
  Conditions: none.
-/
import Derived.Test.YtegmenlonpgnpaaDoorH30
import Derived.Test.YtegmenlonpgnpaaDoorVs31
namespace Go.Proofs.YtegmenlonpgnpaaDoor
open Go.VS Go.Hst
set_option linter.all false
attribute [local irreducible] arun arunD arunU DU.arunD AWp aend
attribute [local simp] DU.gval

theorem sub_iff (m o : UInt8) : (m &&& ~~~o == 0) = (o &&& m == m) := by
  rw [Bool.eq_iff_iff, beq_iff_eq, beq_iff_eq, ← UInt8.toBitVec_inj, ← UInt8.toBitVec_inj]
  simp only [UInt8.toBitVec_and, UInt8.toBitVec_not]
  constructor
  · intro h
    apply BitVec.eq_of_getLsbD_eq
    intro i hi
    have := congrArg (fun x => x.getLsbD i) h
    simp [hi] at this ⊢
    exact this
  · intro h
    apply BitVec.eq_of_getLsbD_eq
    intro i hi
    have := congrArg (fun x => x.getLsbD i) h
    simp [hi] at this ⊢
    exact this

def wholeB (a : List UInt8) (h : Nat) : Bool := addrB a && decide (a.length = h)
def rAt (a r : List UInt8) (h : Nat) (w : Bool) (i : Nat) : Bool := ((a.getD i 0 &&& r.getD (h + i) 0) == r.getD i 0) && (w || (a.getD (h + i) 0 &&& r.getD (h + i) 0) == r.getD (h + i) 0)
def rawH (a r : List UInt8) (h : Nat) : Bool := (wholeB a h || (rngB a && decide (a.length = r.length))) && (List.range h).all (rAt a r h (wholeB a h))

theorem all_iff' {n : Nat} {p : Nat → Bool} : (List.range n).all p = true ↔ ∀ i, i < n → p i = true := by
  rw [List.all_eq_true]; exact ⟨fun h i hi => h i (List.mem_range.2 hi), fun h i hi => h i (List.mem_range.1 hi)⟩
theorem all_congr {n : Nat} {p q : Nat → Bool} (h : ∀ i, i < n → p i = q i) : (List.range n).all p = (List.range n).all q := by
  rw [Bool.eq_iff_iff, all_iff', all_iff']
  exact ⟨fun k i hi => by rw [← h i hi]; exact k i hi, fun k i hi => by rw [h i hi]; exact k i hi⟩
theorem getD_take {l : List UInt8} {h i : Nat} (hi : i < h) : (l.take h).getD i 0 = l.getD i 0 := by
  rw [List.getD_eq_getElem?_getD, List.getD_eq_getElem?_getD, List.getElem?_take, if_pos hi]
theorem getD_drop {l : List UInt8} {h i : Nat} : (l.drop h).getD i 0 = l.getD (h + i) 0 := by
  rw [List.getD_eq_getElem?_getD, List.getD_eq_getElem?_getD, List.getElem?_drop]

theorem raw_eq (a r : List UInt8) (h : Nat) (hr : r.length = 2 * h) (hh : 0 < h) : rawH a r h = awH a r h := by
  unfold rawH awH
  by_cases h1 : a.length = r.length ∧ rngB a = true
  · rw [if_pos h1, h1.2, decide_eq_true h1.1]
    have hw : wholeB a h = false := by unfold wholeB; simp; intro _; omega
    rw [hw]
    simp only [Bool.and_self, Bool.or_true, Bool.true_and]
    unfold subAll inAll
    rw [Bool.eq_iff_iff, Bool.and_eq_true, all_iff', all_iff', all_iff']
    have key : ∀ i, i < h → (rAt a r h false i = true ↔ subAt (r.drop h) (a.drop h) i = true ∧ andAt (a.take h) (r.drop h) (r.take h) i = true) := by
      intro i hi
      unfold rAt subAt andAt
      rw [getD_take hi, getD_take hi, getD_drop, getD_drop, sub_iff]
      simp only [Bool.false_or, Bool.and_eq_true]
      exact And.comm
    exact ⟨fun k => ⟨fun i hi => ((key i hi).1 (k i hi)).1, fun i hi => ((key i hi).1 (k i hi)).2⟩, fun k i hi => (key i hi).2 ⟨k.1 i hi, k.2 i hi⟩⟩
  · rw [if_neg h1]
    have h2 : (rngB a && decide (a.length = r.length)) = false := by
      rw [Bool.and_eq_false_iff]
      by_cases h3 : a.length = r.length
      · left
        cases hb : rngB a with
        | false => rfl
        | true => exact absurd ⟨h3, hb⟩ h1
      · right; simpa using h3
    rw [h2, Bool.or_false]
    cases hw : wholeB a h
    · unfold wholeB at hw
      have : (decide (a.length = h) && (addrB a && inAll a (r.drop h) (r.take h) h)) = false := by
        rw [← Bool.and_assoc, Bool.and_comm (decide _), hw]; rfl
      rw [this]; rfl
    · unfold wholeB at hw
      rw [Bool.and_eq_true] at hw
      rw [hw.1, hw.2]
      simp only [Bool.true_and]
      unfold inAll
      refine all_congr fun i hi => ?_
      unfold rAt andAt
      rw [getD_take hi, getD_drop]
      simp

set_option maxHeartbeats 8000000 in
theorem rawithin_call (a r : List UInt8) (ha : a.length ≤ 1000000) (hr : r.length ≤ 1000000) : PCall Tryd.prog 38 [.str a, .str r] (.bool (awithinB a r)) := by
  refine pcall_body Tryd.func38 rfl Tryd.call38 ?_ ?_
  rotate_left 1
  refine awp_slots (s' := ((.str a : V) :: (.str r : V) :: V.junk :: V.junk :: V.junk :: V.junk :: V.junk :: V.junk :: V.junk :: V.junk :: V.junk :: V.junk :: V.junk :: V.junk :: V.junk :: V.junk :: V.junk :: V.junk :: V.junk :: V.junk :: V.junk :: V.junk :: V.junk :: V.junk :: V.junk :: V.junk :: V.junk :: V.junk :: V.junk :: V.junk :: V.junk :: V.junk :: V.junk :: V.junk :: V.junk :: V.junk :: V.junk :: V.junk :: V.junk :: V.junk :: V.junk :: V.junk :: V.junk :: V.junk :: V.junk :: V.junk :: V.junk :: V.junk :: V.junk :: V.junk :: V.junk :: V.junk :: V.junk :: V.junk :: V.junk :: V.junk :: V.junk :: V.junk :: V.junk :: V.junk :: V.junk :: V.junk :: V.junk :: V.junk :: V.junk :: V.junk :: V.junk :: V.junk :: V.junk :: V.junk :: V.junk :: V.junk :: V.junk :: V.junk :: V.junk :: V.junk :: V.junk :: [])) rfl ?_
  have c1 := rrange_call r hr
  have c2 := rrange_call a ha
  have c3 := raddr_call a ha
  unfold awithinB
  cases w1 : rngB r <;> rw [w1] at c1
  · repeat' (first
    | ((first | refine arunU_go0 rfl fun K9 h9 => ?_ | refine arunD_goF rfl rfl fun K9 h9 => ?_ | refine arunD_goT rfl rfl fun K9 h9 => ?_ | (refine arunU_go ?_ ?_; (focus (simp ; done)); intro K9 h9) | ((first | refine arunD_gF rfl ?_ ?_ | refine arunD_gT rfl ?_ ?_); (focus (simp ; done)); intro K9 h9)); simp (disch := (first | (simp; done) | omega | (simp; omega))) ; (try simp (disch := (first | omega | (simp; omega))) only [wrap_i64, wrap_u8, wrap_u32, wrap_u64, Int.tmod_eq_emod_of_nonneg, Int.tdiv_eq_ediv_of_nonneg]); (first | refine acall_pure (c1) (by simp) ?_ | skip); (repeat (refine And.intro (by first | omega | (simp; first | done | omega) | assumption | (intro e9; have e8 := congrArg List.length e9; first | (simp at e8; done) | ((try simp only [List.length_map, List.length_append] at e8); rw [List.length_nil] at e8; omega))) ?_)); (first | refine h9 _ _ (arunU_slots (by first | (dsimp only [sput, sset]; done) | rfl) ?_) | refine h9 _ _ (arunD_slots' (by first | (dsimp only [sput, sset]; done) | rfl) (by first | (dsimp only [List.tail]; done) | rfl) ?_)); clear h9 K9)
    | (refine arunU_end ?_)
    | (refine arunD_end ?_)
    | (refine awp_seq fun K hK => ?_)
    | (refine awp_regionU ?_)
    | (refine hK _ _ ?_; clear hK K)
    | ((first | refine awp_region_draw' (m := 0) (by decide +kernel) [] (by kernel_rfl) (by decide +kernel) ?_); dsimp only [List.replicate, List.append_nil, List.cons_append, List.nil_append, List.length_cons, List.length_nil])
    | (refine awp_block ?_)
    | (refine awp_cond rfl (fun hcnd => ?_) (fun hcnd => ?_) <;> (try simp at hcnd) <;> (try contradiction) <;> (try (exfalso; omega)))
    | (refine awp_skip ?_)
    | (refine awp_exit ?_; simp only [athen_normal, athen_exit, athen_ret, ablock_self, ablock_ne, ablock_normal, ablock_ret, Nat.reduceBEq])
    | (refine awp_ret ?_; refine ret_go ?_)
    | (refine arunU_no ?_ ?_; (focus (simp ; done)); refine arunU_slots (by first | (dsimp only [sput, sset]; done) | rfl) ?_)
    | ((first | refine arunD_nF rfl ?_ ?_ | refine arunD_nT rfl ?_ ?_); (focus (simp ; done)); refine arunD_slots' (by first | (dsimp only [sput, sset]; done) | rfl) (by first | (dsimp only [List.tail]; done) | rfl) ?_)
    | (refine fall_go ?_)
    | (simp only [athen_normal, athen_exit, athen_ret, ablock_self, ablock_ne, ablock_normal, ablock_ret, Nat.reduceBEq])
    | (clear hK K; refine hK _ _ ?_; clear hK K)
    | (clear hK K; clear hK K; refine hK _ _ ?_; clear hK K)
    | (clear hK K; clear hK K; clear hK K; refine hK _ _ ?_; clear hK K)
    | (clear hK K; clear hK K; clear hK K; clear hK K; refine hK _ _ ?_; clear hK K)
    | (clear hK K; clear hK K; clear hK K; clear hK K; clear hK K; refine hK _ _ ?_; clear hK K))
    exact .pure .bool
  have hl := rng_len w1
  obtain ⟨h, hh⟩ : ∃ h, r.length / 2 = h := ⟨_, rfl⟩
  have hrl : r.length = 2 * h := by omega
  have hh0 : 0 < h := by omega
  have hh16 : h ≤ 16 := by omega
  have e0 : (r.length : Int) / 2 = h := by omega
  rw [hh, ← raw_eq a r h hrl hh0]
  simp only [Bool.true_and]
  clear hl
  have hdef : rawH a r h = ((wholeB a h || (rngB a && decide (a.length = r.length))) && (List.range h).all (rAt a r h (wholeB a h))) := rfl
  generalize rawH a r h = R at *
  obtain ⟨w, hw⟩ : ∃ w, wholeB a h = w := ⟨_, rfl⟩
  rw [hw] at hdef
  have main : ∀ (pre : (w || (rngB a && decide (a.length = r.length))) = true), R = (List.range h).all (rAt a r h w) := fun pre => by rw [hdef, pre, Bool.true_and]
  have arng : addrB a = true → rngB a = false := fun hA => by
    cases hb : rngB a with
    | false => rfl
    | true =>
      have := rng_len hb
      simp [addrB] at hA
      omega
  cases A : addrB a <;> rw [A] at c3
  case true =>
    have hrn := arng A
    rw [hrn] at c2 hdef
    by_cases g1 : a.length = h
    · have g1' : (a.length : Int) = h := by omega
      obtain rfl : w = true := by rw [← hw]; simp [wholeB, A, g1]
      have hR : R = (List.range h).all (rAt a r h true) := main rfl
      repeat' (first
    | ((first | refine arunU_go0 rfl fun K9 h9 => ?_ | refine DU.arunD_goF rfl rfl fun K9 h9 => ?_ | refine DU.arunD_goT rfl rfl fun K9 h9 => ?_ | (refine arunU_go ?_ ?_; (focus (simp [g1', e0]; done)); intro K9 h9) | ((first | refine DU.arunD_gF rfl ?_ ?_ | refine DU.arunD_gT rfl ?_ ?_); (focus (simp [g1', e0]; done)); intro K9 h9)); simp (disch := (first | (simp; done) | omega | (simp; omega))) [g1', e0]; (try simp (disch := (first | omega | (simp; omega))) only [wrap_i64, wrap_u8, wrap_u32, wrap_u64, Int.tmod_eq_emod_of_nonneg, Int.tdiv_eq_ediv_of_nonneg]); (first | refine acall_pure (c1) (by simp) ?_ | refine acall_pure (c2) (by simp) ?_ | refine acall_pure (c3) (by simp) ?_ | skip); (repeat (refine And.intro (by first | omega | (simp; first | done | omega) | assumption | (intro e9; have e8 := congrArg List.length e9; first | (simp at e8; done) | ((try simp only [List.length_map, List.length_append] at e8); rw [List.length_nil] at e8; omega))) ?_)); (first | refine h9 _ _ (arunU_slots (by first | (dsimp only [sput, sset]; done) | rfl) ?_) | refine h9 _ _ (DU.arunD_slots' (by first | (dsimp only [sput, sset]; done) | rfl) (by first | (dsimp only [List.tail]; done) | rfl) ?_)); clear h9 K9)
    | (refine arunU_end ?_)
    | (refine DU.arunD_end ?_)
    | (refine awp_seq fun K hK => ?_)
    | (refine awp_regionU ?_)
    | (refine hK _ _ ?_; clear hK K)
    | ((first | refine DU.awp_region_draw' (m := 0) (by decide +kernel) [] (by kernel_rfl) (by decide +kernel) ?_); dsimp only [List.replicate, List.append_nil, List.cons_append, List.nil_append, List.length_cons, List.length_nil])
    | (refine awp_block ?_)
    | (refine awp_cond rfl (fun hcnd => ?_) (fun hcnd => ?_) <;> (try simp at hcnd) <;> (try contradiction) <;> (try (exfalso; omega)))
    | (refine awp_skip ?_)
    | (refine awp_exit ?_; simp only [athen_normal, athen_exit, athen_ret, ablock_self, ablock_ne, ablock_normal, ablock_ret, Nat.reduceBEq])
    | (refine awp_ret ?_; refine ret_go ?_)
    | (refine arunU_no ?_ ?_; (focus (simp [g1', e0]; done)); refine arunU_slots (by first | (dsimp only [sput, sset]; done) | rfl) ?_)
    | ((first | refine DU.arunD_nF rfl ?_ ?_ | refine DU.arunD_nT rfl ?_ ?_); (focus (simp [g1', e0]; done)); refine DU.arunD_slots' (by first | (dsimp only [sput, sset]; done) | rfl) (by first | (dsimp only [List.tail]; done) | rfl) ?_)
    | (refine fall_go ?_)
    | (simp only [athen_normal, athen_exit, athen_ret, ablock_self, ablock_ne, ablock_normal, ablock_ret, Nat.reduceBEq])
    | (clear hK K; refine hK _ _ ?_; clear hK K)
    | (clear hK K; clear hK K; refine hK _ _ ?_; clear hK K)
    | (clear hK K; clear hK K; clear hK K; refine hK _ _ ?_; clear hK K)
    | (clear hK K; clear hK K; clear hK K; clear hK K; refine hK _ _ ?_; clear hK K)
    | (clear hK K; clear hK K; clear hK K; clear hK K; clear hK K; refine hK _ _ ?_; clear hK K))
      refine awp_loopU (α := Nat) (fun i => (none :: none :: none :: none :: some V.junk :: none :: none :: some (V.int .i64 i) :: some V.junk :: some V.junk :: some V.junk :: some V.junk :: some V.junk :: some V.junk :: some V.junk :: some V.junk :: some V.junk :: some V.junk :: some V.junk :: some V.junk :: some V.junk :: some V.junk :: some V.junk :: some V.junk :: some V.junk :: some V.junk :: some V.junk :: some V.junk :: some V.junk :: some V.junk :: some V.junk :: some V.junk :: some V.junk :: some V.junk :: some V.junk :: some V.junk :: some V.junk :: some V.junk :: some V.junk :: some V.junk :: some V.junk :: some V.junk :: some V.junk :: some V.junk :: some V.junk :: some V.junk :: some V.junk :: some V.junk :: some V.junk :: some V.junk :: some V.junk :: some V.junk :: some V.junk :: some V.junk :: some V.junk :: some V.junk :: some V.junk :: some V.junk :: some V.junk :: some V.junk :: some V.junk :: some V.junk :: some V.junk :: some V.junk :: some V.junk :: some V.junk :: some V.junk :: some V.junk :: some V.junk :: some V.junk :: some V.junk :: some V.junk :: some V.junk :: some V.junk :: some V.junk :: some V.junk :: some V.junk :: [])) (fun i => []) (fun i => i ≤ h ∧ ∀ j, j < i → rAt a r h true j = true) (fun i => h - i) 0 ⟨by omega, fun j h => by omega⟩ ?_ ?_
      · dsimp only [ups_some, ups_none, ups_nil, ups_nil']
        exact Le.mk [] (by simp) (rowsRen_of (by simp) (by simp [rowsOver])) (by simp)
      rintro i ⟨hi, hall⟩ KL hL
      dsimp only [ups_some, ups_none, ups_nil, ups_nil']
      rcases Nat.lt_or_ge i h with hi | hi
      · have hia : i < a.length := by omega
        have hir : i < r.length := by omega
        have him : h + i < r.length := by omega
        have e1 : ((h : Int) + i).toNat = h + i := by omega
        have hi3 : (i : Int) < h := by omega
        have hstep : rAt a r h true i = true → i + 1 ≤ h ∧ ∀ j, j < i + 1 → rAt a r h true j = true := fun hx => ⟨by omega, fun j h => by
          rcases Nat.lt_or_ge j i with h3 | h3
          · exact hall j h3
          · obtain rfl : j = i := by omega
            exact hx⟩
        have hno : rAt a r h true i = false → R = false := fun hx => by rw [hR]; exact rangeAll_no hi hx
        have hat : rAt a r h true i = ((a[i] &&& r[h + i]) == r[i]) := by unfold rAt; rw [getD_at hia, getD_at hir, getD_at him]; simp
        obtain ⟨c, hc⟩ : ∃ c, a[i] = c := ⟨_, rfl⟩
        obtain ⟨d, hd⟩ : ∃ c, r[h + i] = c := ⟨_, rfl⟩
        obtain ⟨e, he⟩ : ∃ c, r[i] = c := ⟨_, rfl⟩
        rw [hc, hd, he] at hat
        have hand := and_u8 c d
        generalize c &&& d = q at *
        by_cases hq : q = e
        rotate_left 1
        · have hq' : ¬ (q.toNat : Int) = e.toNat := u8_ne hq
          have hR0 := hno (by rw [hat]; simp [hq])
          repeat' (first
    | ((first | refine arunU_go0 rfl fun K9 h9 => ?_ | refine DU.arunD_goF rfl rfl fun K9 h9 => ?_ | refine DU.arunD_goT rfl rfl fun K9 h9 => ?_ | (refine arunU_go ?_ ?_; (focus (simp [hi3, e1, hc, hd, he, hand, hq']; done)); intro K9 h9) | ((first | refine DU.arunD_gF rfl ?_ ?_ | refine DU.arunD_gT rfl ?_ ?_); (focus (simp [hi3, e1, hc, hd, he, hand, hq']; done)); intro K9 h9)); simp (disch := (first | (simp; done) | omega | (simp; omega))) [hi3, e1, hc, hd, he, hand, hq']; (try simp (disch := (first | omega | (simp; omega))) only [wrap_i64, wrap_u8, wrap_u32, wrap_u64, Int.tmod_eq_emod_of_nonneg, Int.tdiv_eq_ediv_of_nonneg]); (repeat (refine And.intro (by first | omega | (simp; first | done | omega) | assumption | (intro e9; have e8 := congrArg List.length e9; first | (simp at e8; done) | ((try simp only [List.length_map, List.length_append] at e8); rw [List.length_nil] at e8; omega))) ?_)); (first | refine h9 _ _ (arunU_slots (by first | (dsimp only [sput, sset]; done) | rfl) ?_) | refine h9 _ _ (DU.arunD_slots' (by first | (dsimp only [sput, sset]; done) | rfl) (by first | (dsimp only [List.tail]; done) | rfl) ?_)); clear h9 K9)
    | (refine arunU_end ?_)
    | (refine DU.arunD_end ?_)
    | (refine awp_seq fun K hK => ?_)
    | (refine awp_regionU ?_)
    | (refine hK _ _ ?_; clear hK K)
    | ((first | refine DU.awp_region_draw' (m := 0) (by decide +kernel) [] (by kernel_rfl) (by decide +kernel) ?_); dsimp only [List.replicate, List.append_nil, List.cons_append, List.nil_append, List.length_cons, List.length_nil])
    | (refine awp_block ?_)
    | (refine awp_cond rfl (fun hcnd => ?_) (fun hcnd => ?_) <;> (try simp at hcnd) <;> (try contradiction) <;> (try (exfalso; omega)))
    | (refine awp_skip ?_)
    | (refine awp_exit ?_; simp only [athen_normal, athen_exit, athen_ret, ablock_self, ablock_ne, ablock_normal, ablock_ret, Nat.reduceBEq])
    | (refine awp_ret ?_; refine ret_go ?_)
    | (refine arunU_no ?_ ?_; (focus (simp [hi3, e1, hc, hd, he, hand, hq']; done)); refine arunU_slots (by first | (dsimp only [sput, sset]; done) | rfl) ?_)
    | ((first | refine DU.arunD_nF rfl ?_ ?_ | refine DU.arunD_nT rfl ?_ ?_); (focus (simp [hi3, e1, hc, hd, he, hand, hq']; done)); refine DU.arunD_slots' (by first | (dsimp only [sput, sset]; done) | rfl) (by first | (dsimp only [List.tail]; done) | rfl) ?_)
    | (refine fall_go ?_)
    | (simp only [athen_normal, athen_exit, athen_ret, ablock_self, ablock_ne, ablock_normal, ablock_ret, Nat.reduceBEq])
    | (clear hK K; refine hK _ _ ?_; clear hK K)
    | (clear hK K; clear hK K; refine hK _ _ ?_; clear hK K)
    | (clear hK K; clear hK K; clear hK K; refine hK _ _ ?_; clear hK K)
    | (clear hK K; clear hK K; clear hK K; clear hK K; refine hK _ _ ?_; clear hK K)
    | (clear hK K; clear hK K; clear hK K; clear hK K; clear hK K; refine hK _ _ ?_; clear hK K))
          rw [hR0]
          exact .pure .bool
        have hq' : (q.toNat : Int) = e.toNat := by rw [hq]
        repeat' (first
    | ((first | refine arunU_go0 rfl fun K9 h9 => ?_ | refine DU.arunD_goF rfl rfl fun K9 h9 => ?_ | refine DU.arunD_goT rfl rfl fun K9 h9 => ?_ | (refine arunU_go ?_ ?_; (focus (simp [hi3, e1, hc, hd, he, hand, hq']; done)); intro K9 h9) | ((first | refine DU.arunD_gF rfl ?_ ?_ | refine DU.arunD_gT rfl ?_ ?_); (focus (simp [hi3, e1, hc, hd, he, hand, hq']; done)); intro K9 h9)); simp (disch := (first | (simp; done) | omega | (simp; omega))) [hi3, e1, hc, hd, he, hand, hq']; (try simp (disch := (first | omega | (simp; omega))) only [wrap_i64, wrap_u8, wrap_u32, wrap_u64, Int.tmod_eq_emod_of_nonneg, Int.tdiv_eq_ediv_of_nonneg]); (repeat (refine And.intro (by first | omega | (simp; first | done | omega) | assumption | (intro e9; have e8 := congrArg List.length e9; first | (simp at e8; done) | ((try simp only [List.length_map, List.length_append] at e8); rw [List.length_nil] at e8; omega))) ?_)); (first | refine h9 _ _ (arunU_slots (by first | (dsimp only [sput, sset]; done) | rfl) ?_) | refine h9 _ _ (DU.arunD_slots' (by first | (dsimp only [sput, sset]; done) | rfl) (by first | (dsimp only [List.tail]; done) | rfl) ?_)); clear h9 K9)
    | (refine arunU_end ?_)
    | (refine DU.arunD_end ?_)
    | (refine awp_seq fun K hK => ?_)
    | (refine awp_regionU ?_)
    | (refine hK _ _ ?_; clear hK K)
    | ((first | refine DU.awp_region_draw' (m := 0) (by decide +kernel) [] (by kernel_rfl) (by decide +kernel) ?_); dsimp only [List.replicate, List.append_nil, List.cons_append, List.nil_append, List.length_cons, List.length_nil])
    | (refine awp_block ?_)
    | (refine awp_cond rfl (fun hcnd => ?_) (fun hcnd => ?_) <;> (try simp at hcnd) <;> (try contradiction) <;> (try (exfalso; omega)))
    | (refine awp_skip ?_)
    | (refine awp_exit ?_; simp only [athen_normal, athen_exit, athen_ret, ablock_self, ablock_ne, ablock_normal, ablock_ret, Nat.reduceBEq])
    | (refine awp_ret ?_; refine ret_go ?_)
    | (refine arunU_no ?_ ?_; (focus (simp [hi3, e1, hc, hd, he, hand, hq']; done)); refine arunU_slots (by first | (dsimp only [sput, sset]; done) | rfl) ?_)
    | ((first | refine DU.arunD_nF rfl ?_ ?_ | refine DU.arunD_nT rfl ?_ ?_); (focus (simp [hi3, e1, hc, hd, he, hand, hq']; done)); refine DU.arunD_slots' (by first | (dsimp only [sput, sset]; done) | rfl) (by first | (dsimp only [List.tail]; done) | rfl) ?_)
    | (refine fall_go ?_)
    | (simp only [athen_normal, athen_exit, athen_ret, ablock_self, ablock_ne, ablock_normal, ablock_ret, Nat.reduceBEq])
    | (clear hK K; refine hK _ _ ?_; clear hK K)
    | (clear hK K; clear hK K; refine hK _ _ ?_; clear hK K)
    | (clear hK K; clear hK K; clear hK K; refine hK _ _ ?_; clear hK K)
    | (clear hK K; clear hK K; clear hK K; clear hK K; refine hK _ _ ?_; clear hK K)
    | (clear hK K; clear hK K; clear hK K; clear hK K; clear hK K; refine hK _ _ ?_; clear hK K))
        refine hL (i + 1) _ _ (hstep (by rw [hat, hq]; simp)) (by omega) ?_
        exact Le.mk [] (by dsimp only [ups_some, ups_none, ups_nil, ups_nil']; simp) (rowsRen_of (by simp) (by simp [rowsOver])) (by simp)
      · have hi3 : ¬ (i : Int) < h := by omega
        have hR1 : R = true := by rw [hR]; exact rangeAll_yes fun j hj => hall j (by omega)
        repeat' (first
    | ((first | refine arunU_go0 rfl fun K9 h9 => ?_ | refine DU.arunD_goF rfl rfl fun K9 h9 => ?_ | refine DU.arunD_goT rfl rfl fun K9 h9 => ?_ | (refine arunU_go ?_ ?_; (focus (simp [hi3]; done)); intro K9 h9) | ((first | refine DU.arunD_gF rfl ?_ ?_ | refine DU.arunD_gT rfl ?_ ?_); (focus (simp [hi3]; done)); intro K9 h9)); simp (disch := (first | (simp; done) | omega | (simp; omega))) [hi3]; (try simp (disch := (first | omega | (simp; omega))) only [wrap_i64, wrap_u8, wrap_u32, wrap_u64, Int.tmod_eq_emod_of_nonneg, Int.tdiv_eq_ediv_of_nonneg]); (repeat (refine And.intro (by first | omega | (simp; first | done | omega) | assumption | (intro e9; have e8 := congrArg List.length e9; first | (simp at e8; done) | ((try simp only [List.length_map, List.length_append] at e8); rw [List.length_nil] at e8; omega))) ?_)); (first | refine h9 _ _ (arunU_slots (by first | (dsimp only [sput, sset]; done) | rfl) ?_) | refine h9 _ _ (DU.arunD_slots' (by first | (dsimp only [sput, sset]; done) | rfl) (by first | (dsimp only [List.tail]; done) | rfl) ?_)); clear h9 K9)
    | (refine arunU_end ?_)
    | (refine DU.arunD_end ?_)
    | (refine awp_seq fun K hK => ?_)
    | (refine awp_regionU ?_)
    | (refine hK _ _ ?_; clear hK K)
    | ((first | refine DU.awp_region_draw' (m := 0) (by decide +kernel) [] (by kernel_rfl) (by decide +kernel) ?_); dsimp only [List.replicate, List.append_nil, List.cons_append, List.nil_append, List.length_cons, List.length_nil])
    | (refine awp_block ?_)
    | (refine awp_cond rfl (fun hcnd => ?_) (fun hcnd => ?_) <;> (try simp at hcnd) <;> (try contradiction) <;> (try (exfalso; omega)))
    | (refine awp_skip ?_)
    | (refine awp_exit ?_; simp only [athen_normal, athen_exit, athen_ret, ablock_self, ablock_ne, ablock_normal, ablock_ret, Nat.reduceBEq])
    | (refine awp_ret ?_; refine ret_go ?_)
    | (refine arunU_no ?_ ?_; (focus (simp [hi3]; done)); refine arunU_slots (by first | (dsimp only [sput, sset]; done) | rfl) ?_)
    | ((first | refine DU.arunD_nF rfl ?_ ?_ | refine DU.arunD_nT rfl ?_ ?_); (focus (simp [hi3]; done)); refine DU.arunD_slots' (by first | (dsimp only [sput, sset]; done) | rfl) (by first | (dsimp only [List.tail]; done) | rfl) ?_)
    | (refine fall_go ?_)
    | (simp only [athen_normal, athen_exit, athen_ret, ablock_self, ablock_ne, ablock_normal, ablock_ret, Nat.reduceBEq])
    | (clear hK K; refine hK _ _ ?_; clear hK K)
    | (clear hK K; clear hK K; refine hK _ _ ?_; clear hK K)
    | (clear hK K; clear hK K; clear hK K; refine hK _ _ ?_; clear hK K)
    | (clear hK K; clear hK K; clear hK K; clear hK K; refine hK _ _ ?_; clear hK K)
    | (clear hK K; clear hK K; clear hK K; clear hK K; clear hK K; refine hK _ _ ?_; clear hK K))
        rw [hR1]
        exact .pure .bool
    · have g1' : ¬ (a.length : Int) = h := by omega
      obtain rfl : w = false := by rw [← hw]; simp [wholeB, g1]
      have hR0 : R = false := by rw [hdef]; simp
      repeat' (first
    | ((first | refine arunU_go0 rfl fun K9 h9 => ?_ | refine DU.arunD_goF rfl rfl fun K9 h9 => ?_ | refine DU.arunD_goT rfl rfl fun K9 h9 => ?_ | (refine arunU_go ?_ ?_; (focus (simp [g1', e0]; done)); intro K9 h9) | ((first | refine DU.arunD_gF rfl ?_ ?_ | refine DU.arunD_gT rfl ?_ ?_); (focus (simp [g1', e0]; done)); intro K9 h9)); simp (disch := (first | (simp; done) | omega | (simp; omega))) [g1', e0]; (try simp (disch := (first | omega | (simp; omega))) only [wrap_i64, wrap_u8, wrap_u32, wrap_u64, Int.tmod_eq_emod_of_nonneg, Int.tdiv_eq_ediv_of_nonneg]); (first | refine acall_pure (c1) (by simp) ?_ | refine acall_pure (c2) (by simp) ?_ | refine acall_pure (c3) (by simp) ?_ | skip); (repeat (refine And.intro (by first | omega | (simp; first | done | omega) | assumption | (intro e9; have e8 := congrArg List.length e9; first | (simp at e8; done) | ((try simp only [List.length_map, List.length_append] at e8); rw [List.length_nil] at e8; omega))) ?_)); (first | refine h9 _ _ (arunU_slots (by first | (dsimp only [sput, sset]; done) | rfl) ?_) | refine h9 _ _ (DU.arunD_slots' (by first | (dsimp only [sput, sset]; done) | rfl) (by first | (dsimp only [List.tail]; done) | rfl) ?_)); clear h9 K9)
    | (refine arunU_end ?_)
    | (refine DU.arunD_end ?_)
    | (refine awp_seq fun K hK => ?_)
    | (refine awp_regionU ?_)
    | (refine hK _ _ ?_; clear hK K)
    | ((first | refine DU.awp_region_draw' (m := 0) (by decide +kernel) [] (by kernel_rfl) (by decide +kernel) ?_); dsimp only [List.replicate, List.append_nil, List.cons_append, List.nil_append, List.length_cons, List.length_nil])
    | (refine awp_block ?_)
    | (refine awp_cond rfl (fun hcnd => ?_) (fun hcnd => ?_) <;> (try simp at hcnd) <;> (try contradiction) <;> (try (exfalso; omega)))
    | (refine awp_skip ?_)
    | (refine awp_exit ?_; simp only [athen_normal, athen_exit, athen_ret, ablock_self, ablock_ne, ablock_normal, ablock_ret, Nat.reduceBEq])
    | (refine awp_ret ?_; refine ret_go ?_)
    | (refine arunU_no ?_ ?_; (focus (simp [g1', e0]; done)); refine arunU_slots (by first | (dsimp only [sput, sset]; done) | rfl) ?_)
    | ((first | refine DU.arunD_nF rfl ?_ ?_ | refine DU.arunD_nT rfl ?_ ?_); (focus (simp [g1', e0]; done)); refine DU.arunD_slots' (by first | (dsimp only [sput, sset]; done) | rfl) (by first | (dsimp only [List.tail]; done) | rfl) ?_)
    | (refine fall_go ?_)
    | (simp only [athen_normal, athen_exit, athen_ret, ablock_self, ablock_ne, ablock_normal, ablock_ret, Nat.reduceBEq])
    | (clear hK K; refine hK _ _ ?_; clear hK K)
    | (clear hK K; clear hK K; refine hK _ _ ?_; clear hK K)
    | (clear hK K; clear hK K; clear hK K; refine hK _ _ ?_; clear hK K)
    | (clear hK K; clear hK K; clear hK K; clear hK K; refine hK _ _ ?_; clear hK K)
    | (clear hK K; clear hK K; clear hK K; clear hK K; clear hK K; refine hK _ _ ?_; clear hK K))
      rw [hR0]
      exact .pure .bool
  obtain rfl : w = false := by rw [← hw]; simp [wholeB, A]
  cases B : rngB a <;> rw [B] at c2 hdef
  · have hR0 : R = false := by rw [hdef]; simp
    repeat' (first
    | ((first | refine arunU_go0 rfl fun K9 h9 => ?_ | refine DU.arunD_goF rfl rfl fun K9 h9 => ?_ | refine DU.arunD_goT rfl rfl fun K9 h9 => ?_ | (refine arunU_go ?_ ?_; (focus (simp [e0]; done)); intro K9 h9) | ((first | refine DU.arunD_gF rfl ?_ ?_ | refine DU.arunD_gT rfl ?_ ?_); (focus (simp [e0]; done)); intro K9 h9)); simp (disch := (first | (simp; done) | omega | (simp; omega))) [e0]; (try simp (disch := (first | omega | (simp; omega))) only [wrap_i64, wrap_u8, wrap_u32, wrap_u64, Int.tmod_eq_emod_of_nonneg, Int.tdiv_eq_ediv_of_nonneg]); (first | refine acall_pure (c1) (by simp) ?_ | refine acall_pure (c2) (by simp) ?_ | refine acall_pure (c3) (by simp) ?_ | skip); (repeat (refine And.intro (by first | omega | (simp; first | done | omega) | assumption | (intro e9; have e8 := congrArg List.length e9; first | (simp at e8; done) | ((try simp only [List.length_map, List.length_append] at e8); rw [List.length_nil] at e8; omega))) ?_)); (first | refine h9 _ _ (arunU_slots (by first | (dsimp only [sput, sset]; done) | rfl) ?_) | refine h9 _ _ (DU.arunD_slots' (by first | (dsimp only [sput, sset]; done) | rfl) (by first | (dsimp only [List.tail]; done) | rfl) ?_)); clear h9 K9)
    | (refine arunU_end ?_)
    | (refine DU.arunD_end ?_)
    | (refine awp_seq fun K hK => ?_)
    | (refine awp_regionU ?_)
    | (refine hK _ _ ?_; clear hK K)
    | ((first | refine DU.awp_region_draw' (m := 0) (by decide +kernel) [] (by kernel_rfl) (by decide +kernel) ?_); dsimp only [List.replicate, List.append_nil, List.cons_append, List.nil_append, List.length_cons, List.length_nil])
    | (refine awp_block ?_)
    | (refine awp_cond rfl (fun hcnd => ?_) (fun hcnd => ?_) <;> (try simp at hcnd) <;> (try contradiction) <;> (try (exfalso; omega)))
    | (refine awp_skip ?_)
    | (refine awp_exit ?_; simp only [athen_normal, athen_exit, athen_ret, ablock_self, ablock_ne, ablock_normal, ablock_ret, Nat.reduceBEq])
    | (refine awp_ret ?_; refine ret_go ?_)
    | (refine arunU_no ?_ ?_; (focus (simp [e0]; done)); refine arunU_slots (by first | (dsimp only [sput, sset]; done) | rfl) ?_)
    | ((first | refine DU.arunD_nF rfl ?_ ?_ | refine DU.arunD_nT rfl ?_ ?_); (focus (simp [e0]; done)); refine DU.arunD_slots' (by first | (dsimp only [sput, sset]; done) | rfl) (by first | (dsimp only [List.tail]; done) | rfl) ?_)
    | (refine fall_go ?_)
    | (simp only [athen_normal, athen_exit, athen_ret, ablock_self, ablock_ne, ablock_normal, ablock_ret, Nat.reduceBEq])
    | (clear hK K; refine hK _ _ ?_; clear hK K)
    | (clear hK K; clear hK K; refine hK _ _ ?_; clear hK K)
    | (clear hK K; clear hK K; clear hK K; refine hK _ _ ?_; clear hK K)
    | (clear hK K; clear hK K; clear hK K; clear hK K; refine hK _ _ ?_; clear hK K)
    | (clear hK K; clear hK K; clear hK K; clear hK K; clear hK K; refine hK _ _ ?_; clear hK K))
    rw [hR0]
    exact .pure .bool
  by_cases g2 : a.length = r.length
  · have g2' : (a.length : Int) = r.length := by omega
    have hR : R = (List.range h).all (rAt a r h false) := main (by rw [B, g2]; simp)
    repeat' (first
    | ((first | refine arunU_go0 rfl fun K9 h9 => ?_ | refine DU.arunD_goF rfl rfl fun K9 h9 => ?_ | refine DU.arunD_goT rfl rfl fun K9 h9 => ?_ | (refine arunU_go ?_ ?_; (focus (simp [g2', e0]; done)); intro K9 h9) | ((first | refine DU.arunD_gF rfl ?_ ?_ | refine DU.arunD_gT rfl ?_ ?_); (focus (simp [g2', e0]; done)); intro K9 h9)); simp (disch := (first | (simp; done) | omega | (simp; omega))) [g2', e0]; (try simp (disch := (first | omega | (simp; omega))) only [wrap_i64, wrap_u8, wrap_u32, wrap_u64, Int.tmod_eq_emod_of_nonneg, Int.tdiv_eq_ediv_of_nonneg]); (first | refine acall_pure (c1) (by simp) ?_ | refine acall_pure (c2) (by simp) ?_ | refine acall_pure (c3) (by simp) ?_ | skip); (repeat (refine And.intro (by first | omega | (simp; first | done | omega) | assumption | (intro e9; have e8 := congrArg List.length e9; first | (simp at e8; done) | ((try simp only [List.length_map, List.length_append] at e8); rw [List.length_nil] at e8; omega))) ?_)); (first | refine h9 _ _ (arunU_slots (by first | (dsimp only [sput, sset]; done) | rfl) ?_) | refine h9 _ _ (DU.arunD_slots' (by first | (dsimp only [sput, sset]; done) | rfl) (by first | (dsimp only [List.tail]; done) | rfl) ?_)); clear h9 K9)
    | (refine arunU_end ?_)
    | (refine DU.arunD_end ?_)
    | (refine awp_seq fun K hK => ?_)
    | (refine awp_regionU ?_)
    | (refine hK _ _ ?_; clear hK K)
    | ((first | refine DU.awp_region_draw' (m := 0) (by decide +kernel) [] (by kernel_rfl) (by decide +kernel) ?_); dsimp only [List.replicate, List.append_nil, List.cons_append, List.nil_append, List.length_cons, List.length_nil])
    | (refine awp_block ?_)
    | (refine awp_cond rfl (fun hcnd => ?_) (fun hcnd => ?_) <;> (try simp at hcnd) <;> (try contradiction) <;> (try (exfalso; omega)))
    | (refine awp_skip ?_)
    | (refine awp_exit ?_; simp only [athen_normal, athen_exit, athen_ret, ablock_self, ablock_ne, ablock_normal, ablock_ret, Nat.reduceBEq])
    | (refine awp_ret ?_; refine ret_go ?_)
    | (refine arunU_no ?_ ?_; (focus (simp [g2', e0]; done)); refine arunU_slots (by first | (dsimp only [sput, sset]; done) | rfl) ?_)
    | ((first | refine DU.arunD_nF rfl ?_ ?_ | refine DU.arunD_nT rfl ?_ ?_); (focus (simp [g2', e0]; done)); refine DU.arunD_slots' (by first | (dsimp only [sput, sset]; done) | rfl) (by first | (dsimp only [List.tail]; done) | rfl) ?_)
    | (refine fall_go ?_)
    | (simp only [athen_normal, athen_exit, athen_ret, ablock_self, ablock_ne, ablock_normal, ablock_ret, Nat.reduceBEq])
    | (clear hK K; refine hK _ _ ?_; clear hK K)
    | (clear hK K; clear hK K; refine hK _ _ ?_; clear hK K)
    | (clear hK K; clear hK K; clear hK K; refine hK _ _ ?_; clear hK K)
    | (clear hK K; clear hK K; clear hK K; clear hK K; refine hK _ _ ?_; clear hK K)
    | (clear hK K; clear hK K; clear hK K; clear hK K; clear hK K; refine hK _ _ ?_; clear hK K))
    refine awp_loopU (α := Nat) (fun i => (none :: none :: none :: none :: some V.junk :: none :: none :: some (V.int .i64 i) :: some V.junk :: some V.junk :: some V.junk :: some V.junk :: some V.junk :: some V.junk :: some V.junk :: some V.junk :: some V.junk :: some V.junk :: some V.junk :: some V.junk :: some V.junk :: some V.junk :: some V.junk :: some V.junk :: some V.junk :: some V.junk :: some V.junk :: some V.junk :: some V.junk :: some V.junk :: some V.junk :: some V.junk :: some V.junk :: some V.junk :: some V.junk :: some V.junk :: some V.junk :: some V.junk :: some V.junk :: some V.junk :: some V.junk :: some V.junk :: some V.junk :: some V.junk :: some V.junk :: some V.junk :: some V.junk :: some V.junk :: some V.junk :: some V.junk :: some V.junk :: some V.junk :: some V.junk :: some V.junk :: some V.junk :: some V.junk :: some V.junk :: some V.junk :: some V.junk :: some V.junk :: some V.junk :: some V.junk :: some V.junk :: some V.junk :: some V.junk :: some V.junk :: some V.junk :: some V.junk :: some V.junk :: some V.junk :: some V.junk :: some V.junk :: some V.junk :: some V.junk :: some V.junk :: some V.junk :: some V.junk :: [])) (fun i => []) (fun i => i ≤ h ∧ ∀ j, j < i → rAt a r h false j = true) (fun i => h - i) 0 ⟨by omega, fun j h => by omega⟩ ?_ ?_
    · dsimp only [ups_some, ups_none, ups_nil, ups_nil']
      exact Le.mk [] (by simp) (rowsRen_of (by simp) (by simp [rowsOver])) (by simp)
    rintro i ⟨hi, hall⟩ KL hL
    dsimp only [ups_some, ups_none, ups_nil, ups_nil']
    rcases Nat.lt_or_ge i h with hi | hi
    · have hia : i < a.length := by omega
      have hir : i < r.length := by omega
      have him : h + i < r.length := by omega
      have e1 : ((h : Int) + i).toNat = h + i := by omega
      have hi3 : (i : Int) < h := by omega
      have hstep : rAt a r h false i = true → i + 1 ≤ h ∧ ∀ j, j < i + 1 → rAt a r h false j = true := fun hx => ⟨by omega, fun j h => by
        rcases Nat.lt_or_ge j i with h3 | h3
        · exact hall j h3
        · obtain rfl : j = i := by omega
          exact hx⟩
      have hno : rAt a r h false i = false → R = false := fun hx => by rw [hR]; exact rangeAll_no hi hx
      have hio : h + i < a.length := by omega
      have hat : rAt a r h false i = (((a[i] &&& r[h + i]) == r[i]) && ((a[h + i] &&& r[h + i]) == r[h + i])) := by unfold rAt; rw [getD_at hia, getD_at hir, getD_at him, getD_at hio]; simp
      obtain ⟨c, hc⟩ : ∃ c, a[i] = c := ⟨_, rfl⟩
      obtain ⟨d, hd⟩ : ∃ c, r[h + i] = c := ⟨_, rfl⟩
      obtain ⟨e, he⟩ : ∃ c, r[i] = c := ⟨_, rfl⟩
      obtain ⟨f, hf⟩ : ∃ c, a[h + i] = c := ⟨_, rfl⟩
      rw [hc, hd, he, hf] at hat
      have hand2 := and_u8 f d
      generalize f &&& d = q2 at *
      have hand := and_u8 c d
      generalize c &&& d = q at *
      by_cases hq : q = e
      rotate_left 1
      · have hq' : ¬ (q.toNat : Int) = e.toNat := u8_ne hq
        have hR0 := hno (by rw [hat]; simp [hq])
        repeat' (first
    | ((first | refine arunU_go0 rfl fun K9 h9 => ?_ | refine DU.arunD_goF rfl rfl fun K9 h9 => ?_ | refine DU.arunD_goT rfl rfl fun K9 h9 => ?_ | (refine arunU_go ?_ ?_; (focus (simp [hi3, e1, hc, hd, he, hand, hq']; done)); intro K9 h9) | ((first | refine DU.arunD_gF rfl ?_ ?_ | refine DU.arunD_gT rfl ?_ ?_); (focus (simp [hi3, e1, hc, hd, he, hand, hq']; done)); intro K9 h9)); simp (disch := (first | (simp; done) | omega | (simp; omega))) [hi3, e1, hc, hd, he, hand, hq']; (try simp (disch := (first | omega | (simp; omega))) only [wrap_i64, wrap_u8, wrap_u32, wrap_u64, Int.tmod_eq_emod_of_nonneg, Int.tdiv_eq_ediv_of_nonneg]); (repeat (refine And.intro (by first | omega | (simp; first | done | omega) | assumption | (intro e9; have e8 := congrArg List.length e9; first | (simp at e8; done) | ((try simp only [List.length_map, List.length_append] at e8); rw [List.length_nil] at e8; omega))) ?_)); (first | refine h9 _ _ (arunU_slots (by first | (dsimp only [sput, sset]; done) | rfl) ?_) | refine h9 _ _ (DU.arunD_slots' (by first | (dsimp only [sput, sset]; done) | rfl) (by first | (dsimp only [List.tail]; done) | rfl) ?_)); clear h9 K9)
    | (refine arunU_end ?_)
    | (refine DU.arunD_end ?_)
    | (refine awp_seq fun K hK => ?_)
    | (refine awp_regionU ?_)
    | (refine hK _ _ ?_; clear hK K)
    | ((first | refine DU.awp_region_draw' (m := 0) (by decide +kernel) [] (by kernel_rfl) (by decide +kernel) ?_); dsimp only [List.replicate, List.append_nil, List.cons_append, List.nil_append, List.length_cons, List.length_nil])
    | (refine awp_block ?_)
    | (refine awp_cond rfl (fun hcnd => ?_) (fun hcnd => ?_) <;> (try simp at hcnd) <;> (try contradiction) <;> (try (exfalso; omega)))
    | (refine awp_skip ?_)
    | (refine awp_exit ?_; simp only [athen_normal, athen_exit, athen_ret, ablock_self, ablock_ne, ablock_normal, ablock_ret, Nat.reduceBEq])
    | (refine awp_ret ?_; refine ret_go ?_)
    | (refine arunU_no ?_ ?_; (focus (simp [hi3, e1, hc, hd, he, hand, hq']; done)); refine arunU_slots (by first | (dsimp only [sput, sset]; done) | rfl) ?_)
    | ((first | refine DU.arunD_nF rfl ?_ ?_ | refine DU.arunD_nT rfl ?_ ?_); (focus (simp [hi3, e1, hc, hd, he, hand, hq']; done)); refine DU.arunD_slots' (by first | (dsimp only [sput, sset]; done) | rfl) (by first | (dsimp only [List.tail]; done) | rfl) ?_)
    | (refine fall_go ?_)
    | (simp only [athen_normal, athen_exit, athen_ret, ablock_self, ablock_ne, ablock_normal, ablock_ret, Nat.reduceBEq])
    | (clear hK K; refine hK _ _ ?_; clear hK K)
    | (clear hK K; clear hK K; refine hK _ _ ?_; clear hK K)
    | (clear hK K; clear hK K; clear hK K; refine hK _ _ ?_; clear hK K)
    | (clear hK K; clear hK K; clear hK K; clear hK K; refine hK _ _ ?_; clear hK K)
    | (clear hK K; clear hK K; clear hK K; clear hK K; clear hK K; refine hK _ _ ?_; clear hK K))
        rw [hR0]
        exact .pure .bool
      have hq' : (q.toNat : Int) = e.toNat := by rw [hq]
      by_cases hq2 : q2 = d
      · have hq2' : (q2.toNat : Int) = d.toNat := by rw [hq2]
        repeat' (first
    | ((first | refine arunU_go0 rfl fun K9 h9 => ?_ | refine DU.arunD_goF rfl rfl fun K9 h9 => ?_ | refine DU.arunD_goT rfl rfl fun K9 h9 => ?_ | (refine arunU_go ?_ ?_; (focus (simp [hi3, e1, hc, hd, he, hf, hand, hand2, hq', hq2']; done)); intro K9 h9) | ((first | refine DU.arunD_gF rfl ?_ ?_ | refine DU.arunD_gT rfl ?_ ?_); (focus (simp [hi3, e1, hc, hd, he, hf, hand, hand2, hq', hq2']; done)); intro K9 h9)); simp (disch := (first | (simp; done) | omega | (simp; omega))) [hi3, e1, hc, hd, he, hf, hand, hand2, hq', hq2']; (try simp (disch := (first | omega | (simp; omega))) only [wrap_i64, wrap_u8, wrap_u32, wrap_u64, Int.tmod_eq_emod_of_nonneg, Int.tdiv_eq_ediv_of_nonneg]); (repeat (refine And.intro (by first | omega | (simp; first | done | omega) | assumption | (intro e9; have e8 := congrArg List.length e9; first | (simp at e8; done) | ((try simp only [List.length_map, List.length_append] at e8); rw [List.length_nil] at e8; omega))) ?_)); (first | refine h9 _ _ (arunU_slots (by first | (dsimp only [sput, sset]; done) | rfl) ?_) | refine h9 _ _ (DU.arunD_slots' (by first | (dsimp only [sput, sset]; done) | rfl) (by first | (dsimp only [List.tail]; done) | rfl) ?_)); clear h9 K9)
    | (refine arunU_end ?_)
    | (refine DU.arunD_end ?_)
    | (refine awp_seq fun K hK => ?_)
    | (refine awp_regionU ?_)
    | (refine hK _ _ ?_; clear hK K)
    | ((first | refine DU.awp_region_draw' (m := 0) (by decide +kernel) [] (by kernel_rfl) (by decide +kernel) ?_); dsimp only [List.replicate, List.append_nil, List.cons_append, List.nil_append, List.length_cons, List.length_nil])
    | (refine awp_block ?_)
    | (refine awp_cond rfl (fun hcnd => ?_) (fun hcnd => ?_) <;> (try simp at hcnd) <;> (try contradiction) <;> (try (exfalso; omega)))
    | (refine awp_skip ?_)
    | (refine awp_exit ?_; simp only [athen_normal, athen_exit, athen_ret, ablock_self, ablock_ne, ablock_normal, ablock_ret, Nat.reduceBEq])
    | (refine awp_ret ?_; refine ret_go ?_)
    | (refine arunU_no ?_ ?_; (focus (simp [hi3, e1, hc, hd, he, hf, hand, hand2, hq', hq2']; done)); refine arunU_slots (by first | (dsimp only [sput, sset]; done) | rfl) ?_)
    | ((first | refine DU.arunD_nF rfl ?_ ?_ | refine DU.arunD_nT rfl ?_ ?_); (focus (simp [hi3, e1, hc, hd, he, hf, hand, hand2, hq', hq2']; done)); refine DU.arunD_slots' (by first | (dsimp only [sput, sset]; done) | rfl) (by first | (dsimp only [List.tail]; done) | rfl) ?_)
    | (refine fall_go ?_)
    | (simp only [athen_normal, athen_exit, athen_ret, ablock_self, ablock_ne, ablock_normal, ablock_ret, Nat.reduceBEq])
    | (clear hK K; refine hK _ _ ?_; clear hK K)
    | (clear hK K; clear hK K; refine hK _ _ ?_; clear hK K)
    | (clear hK K; clear hK K; clear hK K; refine hK _ _ ?_; clear hK K)
    | (clear hK K; clear hK K; clear hK K; clear hK K; refine hK _ _ ?_; clear hK K)
    | (clear hK K; clear hK K; clear hK K; clear hK K; clear hK K; refine hK _ _ ?_; clear hK K))
        refine hL (i + 1) _ _ (hstep (by rw [hat, hq, hq2]; simp)) (by omega) ?_
        exact Le.mk [] (by dsimp only [ups_some, ups_none, ups_nil, ups_nil']; simp) (rowsRen_of (by simp) (by simp [rowsOver])) (by simp)
      · have hq2' : ¬ (q2.toNat : Int) = d.toNat := u8_ne hq2
        have hR0 := hno (by rw [hat]; simp [hq2])
        repeat' (first
    | ((first | refine arunU_go0 rfl fun K9 h9 => ?_ | refine DU.arunD_goF rfl rfl fun K9 h9 => ?_ | refine DU.arunD_goT rfl rfl fun K9 h9 => ?_ | (refine arunU_go ?_ ?_; (focus (simp [hi3, e1, hc, hd, he, hf, hand, hand2, hq', hq2']; done)); intro K9 h9) | ((first | refine DU.arunD_gF rfl ?_ ?_ | refine DU.arunD_gT rfl ?_ ?_); (focus (simp [hi3, e1, hc, hd, he, hf, hand, hand2, hq', hq2']; done)); intro K9 h9)); simp (disch := (first | (simp; done) | omega | (simp; omega))) [hi3, e1, hc, hd, he, hf, hand, hand2, hq', hq2']; (try simp (disch := (first | omega | (simp; omega))) only [wrap_i64, wrap_u8, wrap_u32, wrap_u64, Int.tmod_eq_emod_of_nonneg, Int.tdiv_eq_ediv_of_nonneg]); (repeat (refine And.intro (by first | omega | (simp; first | done | omega) | assumption | (intro e9; have e8 := congrArg List.length e9; first | (simp at e8; done) | ((try simp only [List.length_map, List.length_append] at e8); rw [List.length_nil] at e8; omega))) ?_)); (first | refine h9 _ _ (arunU_slots (by first | (dsimp only [sput, sset]; done) | rfl) ?_) | refine h9 _ _ (DU.arunD_slots' (by first | (dsimp only [sput, sset]; done) | rfl) (by first | (dsimp only [List.tail]; done) | rfl) ?_)); clear h9 K9)
    | (refine arunU_end ?_)
    | (refine DU.arunD_end ?_)
    | (refine awp_seq fun K hK => ?_)
    | (refine awp_regionU ?_)
    | (refine hK _ _ ?_; clear hK K)
    | ((first | refine DU.awp_region_draw' (m := 0) (by decide +kernel) [] (by kernel_rfl) (by decide +kernel) ?_); dsimp only [List.replicate, List.append_nil, List.cons_append, List.nil_append, List.length_cons, List.length_nil])
    | (refine awp_block ?_)
    | (refine awp_cond rfl (fun hcnd => ?_) (fun hcnd => ?_) <;> (try simp at hcnd) <;> (try contradiction) <;> (try (exfalso; omega)))
    | (refine awp_skip ?_)
    | (refine awp_exit ?_; simp only [athen_normal, athen_exit, athen_ret, ablock_self, ablock_ne, ablock_normal, ablock_ret, Nat.reduceBEq])
    | (refine awp_ret ?_; refine ret_go ?_)
    | (refine arunU_no ?_ ?_; (focus (simp [hi3, e1, hc, hd, he, hf, hand, hand2, hq', hq2']; done)); refine arunU_slots (by first | (dsimp only [sput, sset]; done) | rfl) ?_)
    | ((first | refine DU.arunD_nF rfl ?_ ?_ | refine DU.arunD_nT rfl ?_ ?_); (focus (simp [hi3, e1, hc, hd, he, hf, hand, hand2, hq', hq2']; done)); refine DU.arunD_slots' (by first | (dsimp only [sput, sset]; done) | rfl) (by first | (dsimp only [List.tail]; done) | rfl) ?_)
    | (refine fall_go ?_)
    | (simp only [athen_normal, athen_exit, athen_ret, ablock_self, ablock_ne, ablock_normal, ablock_ret, Nat.reduceBEq])
    | (clear hK K; refine hK _ _ ?_; clear hK K)
    | (clear hK K; clear hK K; refine hK _ _ ?_; clear hK K)
    | (clear hK K; clear hK K; clear hK K; refine hK _ _ ?_; clear hK K)
    | (clear hK K; clear hK K; clear hK K; clear hK K; refine hK _ _ ?_; clear hK K)
    | (clear hK K; clear hK K; clear hK K; clear hK K; clear hK K; refine hK _ _ ?_; clear hK K))
        rw [hR0]
        exact .pure .bool
    · have hi3 : ¬ (i : Int) < h := by omega
      have hR1 : R = true := by rw [hR]; exact rangeAll_yes fun j hj => hall j (by omega)
      repeat' (first
    | ((first | refine arunU_go0 rfl fun K9 h9 => ?_ | refine DU.arunD_goF rfl rfl fun K9 h9 => ?_ | refine DU.arunD_goT rfl rfl fun K9 h9 => ?_ | (refine arunU_go ?_ ?_; (focus (simp [hi3]; done)); intro K9 h9) | ((first | refine DU.arunD_gF rfl ?_ ?_ | refine DU.arunD_gT rfl ?_ ?_); (focus (simp [hi3]; done)); intro K9 h9)); simp (disch := (first | (simp; done) | omega | (simp; omega))) [hi3]; (try simp (disch := (first | omega | (simp; omega))) only [wrap_i64, wrap_u8, wrap_u32, wrap_u64, Int.tmod_eq_emod_of_nonneg, Int.tdiv_eq_ediv_of_nonneg]); (repeat (refine And.intro (by first | omega | (simp; first | done | omega) | assumption | (intro e9; have e8 := congrArg List.length e9; first | (simp at e8; done) | ((try simp only [List.length_map, List.length_append] at e8); rw [List.length_nil] at e8; omega))) ?_)); (first | refine h9 _ _ (arunU_slots (by first | (dsimp only [sput, sset]; done) | rfl) ?_) | refine h9 _ _ (DU.arunD_slots' (by first | (dsimp only [sput, sset]; done) | rfl) (by first | (dsimp only [List.tail]; done) | rfl) ?_)); clear h9 K9)
    | (refine arunU_end ?_)
    | (refine DU.arunD_end ?_)
    | (refine awp_seq fun K hK => ?_)
    | (refine awp_regionU ?_)
    | (refine hK _ _ ?_; clear hK K)
    | ((first | refine DU.awp_region_draw' (m := 0) (by decide +kernel) [] (by kernel_rfl) (by decide +kernel) ?_); dsimp only [List.replicate, List.append_nil, List.cons_append, List.nil_append, List.length_cons, List.length_nil])
    | (refine awp_block ?_)
    | (refine awp_cond rfl (fun hcnd => ?_) (fun hcnd => ?_) <;> (try simp at hcnd) <;> (try contradiction) <;> (try (exfalso; omega)))
    | (refine awp_skip ?_)
    | (refine awp_exit ?_; simp only [athen_normal, athen_exit, athen_ret, ablock_self, ablock_ne, ablock_normal, ablock_ret, Nat.reduceBEq])
    | (refine awp_ret ?_; refine ret_go ?_)
    | (refine arunU_no ?_ ?_; (focus (simp [hi3]; done)); refine arunU_slots (by first | (dsimp only [sput, sset]; done) | rfl) ?_)
    | ((first | refine DU.arunD_nF rfl ?_ ?_ | refine DU.arunD_nT rfl ?_ ?_); (focus (simp [hi3]; done)); refine DU.arunD_slots' (by first | (dsimp only [sput, sset]; done) | rfl) (by first | (dsimp only [List.tail]; done) | rfl) ?_)
    | (refine fall_go ?_)
    | (simp only [athen_normal, athen_exit, athen_ret, ablock_self, ablock_ne, ablock_normal, ablock_ret, Nat.reduceBEq])
    | (clear hK K; refine hK _ _ ?_; clear hK K)
    | (clear hK K; clear hK K; refine hK _ _ ?_; clear hK K)
    | (clear hK K; clear hK K; clear hK K; refine hK _ _ ?_; clear hK K)
    | (clear hK K; clear hK K; clear hK K; clear hK K; refine hK _ _ ?_; clear hK K)
    | (clear hK K; clear hK K; clear hK K; clear hK K; clear hK K; refine hK _ _ ?_; clear hK K))
      rw [hR1]
      exact .pure .bool
  · have g2' : ¬ (a.length : Int) = r.length := by omega
    have hR0 : R = false := by rw [hdef]; simp [g2]
    repeat' (first
    | ((first | refine arunU_go0 rfl fun K9 h9 => ?_ | refine DU.arunD_goF rfl rfl fun K9 h9 => ?_ | refine DU.arunD_goT rfl rfl fun K9 h9 => ?_ | (refine arunU_go ?_ ?_; (focus (simp [g2', e0]; done)); intro K9 h9) | ((first | refine DU.arunD_gF rfl ?_ ?_ | refine DU.arunD_gT rfl ?_ ?_); (focus (simp [g2', e0]; done)); intro K9 h9)); simp (disch := (first | (simp; done) | omega | (simp; omega))) [g2', e0]; (try simp (disch := (first | omega | (simp; omega))) only [wrap_i64, wrap_u8, wrap_u32, wrap_u64, Int.tmod_eq_emod_of_nonneg, Int.tdiv_eq_ediv_of_nonneg]); (first | refine acall_pure (c1) (by simp) ?_ | refine acall_pure (c2) (by simp) ?_ | refine acall_pure (c3) (by simp) ?_ | skip); (repeat (refine And.intro (by first | omega | (simp; first | done | omega) | assumption | (intro e9; have e8 := congrArg List.length e9; first | (simp at e8; done) | ((try simp only [List.length_map, List.length_append] at e8); rw [List.length_nil] at e8; omega))) ?_)); (first | refine h9 _ _ (arunU_slots (by first | (dsimp only [sput, sset]; done) | rfl) ?_) | refine h9 _ _ (DU.arunD_slots' (by first | (dsimp only [sput, sset]; done) | rfl) (by first | (dsimp only [List.tail]; done) | rfl) ?_)); clear h9 K9)
    | (refine arunU_end ?_)
    | (refine DU.arunD_end ?_)
    | (refine awp_seq fun K hK => ?_)
    | (refine awp_regionU ?_)
    | (refine hK _ _ ?_; clear hK K)
    | ((first | refine DU.awp_region_draw' (m := 0) (by decide +kernel) [] (by kernel_rfl) (by decide +kernel) ?_); dsimp only [List.replicate, List.append_nil, List.cons_append, List.nil_append, List.length_cons, List.length_nil])
    | (refine awp_block ?_)
    | (refine awp_cond rfl (fun hcnd => ?_) (fun hcnd => ?_) <;> (try simp at hcnd) <;> (try contradiction) <;> (try (exfalso; omega)))
    | (refine awp_skip ?_)
    | (refine awp_exit ?_; simp only [athen_normal, athen_exit, athen_ret, ablock_self, ablock_ne, ablock_normal, ablock_ret, Nat.reduceBEq])
    | (refine awp_ret ?_; refine ret_go ?_)
    | (refine arunU_no ?_ ?_; (focus (simp [g2', e0]; done)); refine arunU_slots (by first | (dsimp only [sput, sset]; done) | rfl) ?_)
    | ((first | refine DU.arunD_nF rfl ?_ ?_ | refine DU.arunD_nT rfl ?_ ?_); (focus (simp [g2', e0]; done)); refine DU.arunD_slots' (by first | (dsimp only [sput, sset]; done) | rfl) (by first | (dsimp only [List.tail]; done) | rfl) ?_)
    | (refine fall_go ?_)
    | (simp only [athen_normal, athen_exit, athen_ret, ablock_self, ablock_ne, ablock_normal, ablock_ret, Nat.reduceBEq])
    | (clear hK K; refine hK _ _ ?_; clear hK K)
    | (clear hK K; clear hK K; refine hK _ _ ?_; clear hK K)
    | (clear hK K; clear hK K; clear hK K; refine hK _ _ ?_; clear hK K)
    | (clear hK K; clear hK K; clear hK K; clear hK K; refine hK _ _ ?_; clear hK K)
    | (clear hK K; clear hK K; clear hK K; clear hK K; clear hK K; refine hK _ _ ?_; clear hK K))
    rw [hR0]
    exact .pure .bool
  · exact .bool
end Go.Proofs.YtegmenlonpgnpaaDoor
