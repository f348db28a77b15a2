/-
  CONTRACTS: MerkleBack.
  Conditions: none.
-/
import Derived.Test.YthcdofbmmibgjaaM12
namespace Go.Proofs.Ythcdofbmmibgjaa
open Go.VS
set_option linter.all false
attribute [local irreducible] arun arunD AWp aend shaS shaT leafN verE

set_option maxRecDepth 100000 in
set_option maxHeartbeats 4000000 in
theorem merkleBack_call (k height : UInt8) (l : List (List UInt8)) (hl : l.length ≤ 4611686018427387904) : PCall Try.prog 9 [byteV k, byteV height, .sl l.length (l.map V.str)] (.bool true) := by
  refine pcall_body Try.func9 rfl Try.call9 ?_ ?_
  rotate_left 1
  refine awp_slots (s' := ((byteV k : V) :: (byteV height : V) :: (.sl l.length (l.map V.str) : V) :: V.junk :: V.junk :: V.junk :: V.junk :: V.junk :: V.junk :: V.junk :: V.junk :: V.junk :: V.junk :: V.junk :: V.junk :: V.junk :: V.junk :: V.junk :: V.junk :: V.junk :: V.junk :: V.junk :: V.junk :: V.junk :: V.junk :: V.junk :: V.junk :: V.junk :: V.junk :: V.junk :: V.junk :: V.junk :: V.junk :: V.junk :: V.junk :: V.junk :: V.junk :: V.junk :: V.junk :: V.junk :: V.junk :: V.junk :: V.junk :: V.junk :: V.junk :: V.junk :: V.junk :: V.junk :: V.junk :: V.junk :: V.junk :: V.junk :: V.junk :: V.junk :: V.junk :: V.junk :: V.junk :: V.junk :: V.junk :: V.junk :: V.junk :: V.junk :: V.junk :: V.junk :: V.junk :: V.junk :: V.junk :: V.junk :: V.junk :: V.junk :: V.junk :: V.junk :: V.junk :: V.junk :: V.junk :: V.junk :: V.junk :: V.junk :: V.junk :: V.junk :: V.junk :: V.junk :: V.junk :: [])) rfl ?_
  have hfc := few_call l 8 100 hl
  by_cases hfw : fewS l 8 100 = true
  · rw [hfw] at hfc
    have hall : l.length ≤ 8 ∧ ∀ s ∈ l, s.length ≤ 100 := by
      simp only [fewS, Bool.and_eq_true, decide_eq_true_eq, List.all_eq_true] at hfw
      exact ⟨by omega, fun s hs => by have := hfw.2 s hs; omega⟩
    clear hfw
    have hc : k.toNat < 256 := UInt8.toNat_lt _
    have hc2 : height.toNat < 256 := UInt8.toNat_lt _
    obtain ⟨h, hhe⟩ : ∃ h : Nat, height.toNat % 3 = h := ⟨_, rfl⟩
    have hh : (height.toNat : Int) % 3 = (h : Int) := by omega
    have hh8 : h ≤ 8 := by omega
    have hs : (mseedS k.toNat).length = 32 := mseedS_length _
    have hp0 : 0 < 2 ^ h := Nat.two_pow_pos h
    have h256 := pow_le_256 hh8
    have hgc := generate_call (mseedS k.toNat) h hs hh8
    have hms := mseed_call (k.toNat : Int)
    have hkc := key_call (mseedS k.toNat) h true hs hh8
    unfold keyV at hkc
    generalize mseedS (k.toNat : Int) = seed at *
    repeat' (first
    | ((first | refine arun_go0 rfl fun K9 h9 => ?_ | (refine arun_go ?_ ?_; (focus (simp [hh]; done)); intro K9 h9)); simp (disch := (first | (simp; done) | omega | (simp; omega))) [hh]; (try simp (disch := (first | omega | (simp; omega))) only [wrap_i64, wrap_u8, wrap_u32, wrap_u64, Int.tmod_eq_emod_of_nonneg, Int.tdiv_eq_ediv_of_nonneg]); (first | refine acall_pure (hfc) (by simp) ?_ | refine acall_pure (hms) (by simp) ?_ | refine acall_newT hgc (trR_pures _ _ _) .int (by simp) ?_ | skip); (repeat (refine And.intro (by first | omega | (simp; first | done | omega) | assumption | (intro e9; have e8 := congrArg List.length e9; first | (simp at e8; done) | ((try simp only [List.length_map, List.length_append] at e8); rw [List.length_nil] at e8; omega))) ?_)); (first | refine h9 _ _ (arun_slots (by first | (dsimp only [sput, sset]; done) | rfl) ?_)); clear h9 K9)
    | (refine arun_end ?_)
    | (refine awp_seq fun K hK => ?_)
    | (refine awp_region ?_)
    | (refine hK _ _ ?_; clear hK K)
    | (refine awp_block ?_)
    | (refine awp_cond rfl (fun hcnd => ?_) (fun hcnd => ?_) <;> (try simp at hcnd) <;> (try contradiction) <;> (try (exfalso; omega)))
    | (refine awp_skip ?_)
    | (refine awp_exit ?_; simp only [athen_normal, athen_exit, athen_ret, ablock_self, ablock_ne, ablock_normal, ablock_ret, Nat.reduceBEq])
    | (refine awp_ret ?_; refine ret_go ?_)
    | (refine arun_no ?_ ?_; (focus (simp [hh]; done)); refine arun_slots (by first | (dsimp only [sput, sset]; done) | rfl) ?_)
    | (refine fall_go ?_)
    | (simp only [athen_normal, athen_exit, athen_ret, ablock_self, ablock_ne, ablock_normal, ablock_ret, Nat.reduceBEq])
    | (clear hK K; refine hK _ _ ?_; clear hK K)
    | (clear hK K; clear hK K; refine hK _ _ ?_; clear hK K)
    | (clear hK K; clear hK K; clear hK K; refine hK _ _ ?_; clear hK K)
    | (clear hK K; clear hK K; clear hK K; clear hK K; refine hK _ _ ?_; clear hK K)
    | (clear hK K; clear hK K; clear hK K; clear hK K; clear hK K; refine hK _ _ ?_; clear hK K))
    refine awp_countU (fun i => (some V.junk :: some V.junk :: some V.junk :: none :: none :: none :: some V.junk :: none :: some V.junk :: some V.junk :: some V.junk :: some V.junk :: some V.junk :: some V.junk :: some V.junk :: some V.junk :: some V.junk :: some V.junk :: some V.junk :: some V.junk :: some V.junk :: some V.junk :: some V.junk :: some V.junk :: some V.junk :: some V.junk :: some V.junk :: some V.junk :: some V.junk :: some V.junk :: some V.junk :: some V.junk :: some V.junk :: some V.junk :: some V.junk :: some V.junk :: none :: none :: some (V.int .i64 i) :: some V.junk :: some V.junk :: some V.junk :: some V.junk :: some V.junk :: some V.junk :: some V.junk :: some V.junk :: some V.junk :: some V.junk :: some V.junk :: some V.junk :: some V.junk :: some V.junk :: some V.junk :: some V.junk :: some V.junk :: some V.junk :: some V.junk :: some V.junk :: some V.junk :: some V.junk :: some V.junk :: some V.junk :: some V.junk :: some V.junk :: some V.junk :: some V.junk :: some V.junk :: some V.junk :: some V.junk :: some V.junk :: some V.junk :: some V.junk :: some V.junk :: some V.junk :: some V.junk :: some V.junk :: some V.junk :: some V.junk :: some V.junk :: some V.junk :: some V.junk :: some V.junk :: [])) (fun i => [.live (trR seed h (decide (0 < i)))]) l.length ?_ fun i hi KL hL => ?_
    · dsimp only [ups_some, ups_none, ups_nil, ups_nil']
      exact Le.mk [some 0] (by simp) (rowsRen_of (by simp) (by simp [rowsOver])) (by simp)
    dsimp only [ups_some, ups_none, ups_nil, ups_nil']
    rw [show decide (0 < i + 1) = true from decide_eq_true (by omega)] at hL
    rcases Nat.lt_or_ge i l.length with hi | hi
    · have hml := hall.2 _ (List.getElem_mem hi)
      generalize decide (0 < i) = g at *
      obtain ⟨f, hfe⟩ : ∃ f : Nat, i % 2 ^ h = f := ⟨_, rfl⟩
      have hf : f < 2 ^ h := by rw [← hfe]; exact Nat.mod_lt _ hp0
      have hlv := leaves_call seed h g (seed_ne hs) hh8
      have t1 := tsign_call seed h g f l[i] hs hh8 hf (by omega)
      have t2 := tsign_call seed h true f l[i] hs hh8 hf (by omega)
      have hv := verify_call h (idS seed) (rootS (idS seed) seed h) l[i] (sgnS seed h f l[i]) (by simp) (by simp) (by omega) (by rw [sgnS_length _ _ _ _ hf]; omega)
      rw [verE_sgn seed h f l[i] hh8 hf] at hv
      obtain ⟨p, hp⟩ : ∃ p, 2 ^ h = p := ⟨_, rfl⟩
      rw [hp] at hf hp0 hfe hlv h256
      have hff : (i : Int) % (p : Int) = (f : Int) := by omega
      have hmx : (if (p : Int) < 1 then (1 : Int) else (p : Int)) = p := if_neg (by omega)
      repeat' (first
    | ((first | refine arun_go0 rfl fun K9 h9 => ?_ | (refine arun_go ?_ ?_; (focus (simp [hff, hmx]; done)); intro K9 h9)); simp (disch := (first | (simp; done) | omega | (simp; omega))) [hff, hmx]; (try simp (disch := (first | omega | (simp; omega))) only [wrap_i64, wrap_u8, wrap_u32, wrap_u64, Int.tmod_eq_emod_of_nonneg, Int.tdiv_eq_ediv_of_nonneg]); (first | refine acall_view hlv ⟨view_ref rfl (by simp) (trR_pures _ _ _), trivial⟩ .int ?_ | refine acall_mut 0 t1 rfl (trR_pures _ _ _) (trR_pures _ _ _) (by simp) (by simp) ?_ | refine acall_mut 0 t2 rfl (trR_pures _ _ _) (trR_pures _ _ _) (by simp) (by simp) ?_ | refine acall_mut 0 hkc rfl (trR_pures _ _ _) (trR_pures _ _ _) (by simp) (by simp) ?_ | refine acall_pure (hv) (by simp) ?_ | skip); (repeat (refine And.intro (by first | omega | (simp; first | done | omega) | assumption | (intro e9; have e8 := congrArg List.length e9; first | (simp at e8; done) | ((try simp only [List.length_map, List.length_append] at e8); rw [List.length_nil] at e8; omega))) ?_)); (first | refine h9 _ _ (arun_slots (by first | (dsimp only [sput, sset]; done) | rfl) ?_)); clear h9 K9)
    | (refine arun_end ?_)
    | (refine awp_seq fun K hK => ?_)
    | (refine awp_region ?_)
    | (refine hK _ _ ?_; clear hK K)
    | (refine awp_block ?_)
    | (refine awp_cond rfl (fun hcnd => ?_) (fun hcnd => ?_) <;> (try simp at hcnd) <;> (try contradiction) <;> (try (exfalso; omega)))
    | (refine awp_skip ?_)
    | (refine awp_exit ?_; simp only [athen_normal, athen_exit, athen_ret, ablock_self, ablock_ne, ablock_normal, ablock_ret, Nat.reduceBEq])
    | (refine awp_ret ?_; refine ret_go ?_)
    | (refine arun_no ?_ ?_; (focus (simp [hff, hmx]; done)); refine arun_slots (by first | (dsimp only [sput, sset]; done) | rfl) ?_)
    | (refine fall_go ?_)
    | (simp only [athen_normal, athen_exit, athen_ret, ablock_self, ablock_ne, ablock_normal, ablock_ret, Nat.reduceBEq])
    | (clear hK K; refine hK _ _ ?_; clear hK K)
    | (clear hK K; clear hK K; refine hK _ _ ?_; clear hK K)
    | (clear hK K; clear hK K; clear hK K; refine hK _ _ ?_; clear hK K)
    | (clear hK K; clear hK K; clear hK K; clear hK K; refine hK _ _ ?_; clear hK K)
    | (clear hK K; clear hK K; clear hK K; clear hK K; clear hK K; refine hK _ _ ?_; clear hK K))
      refine hL _ _ hi ?_
      exact Le.mk [some 0] (by dsimp only [ups_some, ups_none, ups_nil, ups_nil']; simp) (rowsRen_of (by simp) (by simp [rowsOver])) (by simp)
    obtain rfl : i = l.length := by omega
    repeat' (first
    | ((first | refine arun_go0 rfl fun K9 h9 => ?_ | (refine arun_go ?_ ?_; (focus (simp ; done)); intro K9 h9)); simp (disch := (first | (simp; done) | omega | (simp; omega))) ; (try simp (disch := (first | omega | (simp; omega))) only [wrap_i64, wrap_u8, wrap_u32, wrap_u64, Int.tmod_eq_emod_of_nonneg, Int.tdiv_eq_ediv_of_nonneg]); (first | refine acall_pure (awake12_call) (by simp) ?_ | skip); (repeat (refine And.intro (by first | omega | (simp; first | done | omega) | assumption | (intro e9; have e8 := congrArg List.length e9; first | (simp at e8; done) | ((try simp only [List.length_map, List.length_append] at e8); rw [List.length_nil] at e8; omega))) ?_)); (first | refine h9 _ _ (arun_slots (by first | (dsimp only [sput, sset]; done) | rfl) ?_)); clear h9 K9)
    | (refine arun_end ?_)
    | (refine awp_seq fun K hK => ?_)
    | (refine awp_region ?_)
    | (refine hK _ _ ?_; clear hK K)
    | (refine awp_block ?_)
    | (refine awp_cond rfl (fun hcnd => ?_) (fun hcnd => ?_) <;> (try simp at hcnd) <;> (try contradiction) <;> (try (exfalso; omega)))
    | (refine awp_skip ?_)
    | (refine awp_exit ?_; simp only [athen_normal, athen_exit, athen_ret, ablock_self, ablock_ne, ablock_normal, ablock_ret, Nat.reduceBEq])
    | (refine awp_ret ?_; refine ret_go ?_)
    | (refine arun_no ?_ ?_; (focus (simp ; done)); refine arun_slots (by first | (dsimp only [sput, sset]; done) | rfl) ?_)
    | (refine fall_go ?_)
    | (simp only [athen_normal, athen_exit, athen_ret, ablock_self, ablock_ne, ablock_normal, ablock_ret, Nat.reduceBEq])
    | (clear hK K; refine hK _ _ ?_; clear hK K)
    | (clear hK K; clear hK K; refine hK _ _ ?_; clear hK K)
    | (clear hK K; clear hK K; clear hK K; refine hK _ _ ?_; clear hK K)
    | (clear hK K; clear hK K; clear hK K; clear hK K; refine hK _ _ ?_; clear hK K)
    | (clear hK K; clear hK K; clear hK K; clear hK K; clear hK K; refine hK _ _ ?_; clear hK K))
    simp
    exact .pure .bool
  · have hfw' : fewS l 8 100 = false := by simpa using hfw
    rw [hfw'] at hfc
    repeat' (first
    | ((first | refine arun_go0 rfl fun K9 h9 => ?_ | (refine arun_go ?_ ?_; (focus (simp ; done)); intro K9 h9)); simp (disch := (first | (simp; done) | omega | (simp; omega))) ; (try simp (disch := (first | omega | (simp; omega))) only [wrap_i64, wrap_u8, wrap_u32, wrap_u64, Int.tmod_eq_emod_of_nonneg, Int.tdiv_eq_ediv_of_nonneg]); (first | refine acall_pure (hfc) (by simp) ?_ | refine acall_pure (awake12_call) (by simp) ?_ | skip); (repeat (refine And.intro (by first | omega | (simp; first | done | omega) | assumption | (intro e9; have e8 := congrArg List.length e9; first | (simp at e8; done) | ((try simp only [List.length_map, List.length_append] at e8); rw [List.length_nil] at e8; omega))) ?_)); (first | refine h9 _ _ (arun_slots (by first | (dsimp only [sput, sset]; done) | rfl) ?_)); clear h9 K9)
    | (refine arun_end ?_)
    | (refine awp_seq fun K hK => ?_)
    | (refine awp_region ?_)
    | (refine hK _ _ ?_; clear hK K)
    | (refine awp_block ?_)
    | (refine awp_cond rfl (fun hcnd => ?_) (fun hcnd => ?_) <;> (try simp at hcnd) <;> (try contradiction) <;> (try (exfalso; omega)))
    | (refine awp_skip ?_)
    | (refine awp_exit ?_; simp only [athen_normal, athen_exit, athen_ret, ablock_self, ablock_ne, ablock_normal, ablock_ret, Nat.reduceBEq])
    | (refine awp_ret ?_; refine ret_go ?_)
    | (refine arun_no ?_ ?_; (focus (simp ; done)); refine arun_slots (by first | (dsimp only [sput, sset]; done) | rfl) ?_)
    | (refine fall_go ?_)
    | (simp only [athen_normal, athen_exit, athen_ret, ablock_self, ablock_ne, ablock_normal, ablock_ret, Nat.reduceBEq])
    | (clear hK K; refine hK _ _ ?_; clear hK K)
    | (clear hK K; clear hK K; refine hK _ _ ?_; clear hK K)
    | (clear hK K; clear hK K; clear hK K; refine hK _ _ ?_; clear hK K)
    | (clear hK K; clear hK K; clear hK K; clear hK K; refine hK _ _ ?_; clear hK K)
    | (clear hK K; clear hK K; clear hK K; clear hK K; clear hK K; refine hK _ _ ?_; clear hK K))
    simp
    exact .pure .bool
  · exact .bool
set_option maxRecDepth 100000 in
theorem merkleBack_fits : ∀ xs, FitsAll Try.prog 8 Try.f9.params.toList xs → PCall Try.prog 9 xs (.bool true) := by
  intro xs h
  rw [show Try.f9.params.toList = [5, 5, 30] by kernel_rfl] at h
  obtain ⟨x1, xs, rfl, h1, h⟩ := fitsAll_cons h
  obtain ⟨x2, xs, rfl, h2, h⟩ := fitsAll_cons h
  obtain ⟨x3, xs, rfl, h3, h⟩ := fitsAll_cons h
  obtain rfl := fitsAll_nil h
  obtain ⟨k, rfl⟩ := fits_u8 (by kernel_rfl) h1
  obtain ⟨height, rfl⟩ := fits_u8 (by kernel_rfl) h2
  obtain ⟨l, hl, -, rfl⟩ := fits_strs (e := 9) (by kernel_rfl) (by kernel_rfl) h3
  exact merkleBack_call k height l (by omega)
end Go.Proofs.Ythcdofbmmibgjaa
