/-
  CONTRACTS: MerkleGenerate, MerkleSign.
  Conditions: none.
-/
import Derived.Test.YthcdofbmmibgjaaM12
namespace Go.Proofs.Ythcdofbmmibgjaa
open Go.VS
set_option linter.all false
attribute [local irreducible] arun arunD AWp aend shaS shaT leafN verE

theorem leafV_sgn (seed : List UInt8) (h leaf : Nat) (m : List UInt8) (hh : h ≤ 8) (hf : leaf < 2 ^ h) : leafV (sgnS seed h leaf m) = .tup [.int .i64 leaf, .bool true] := by
  have h256 := pow_le_256 hh
  have hl := sgnS_length seed h leaf m hf
  rw [leafV, if_neg (by omega), sgnS, List.append_assoc, leafN_wbytes _ _ (by omega) (by omega)]

set_option maxRecDepth 100000 in
set_option maxHeartbeats 4000000 in
theorem merkleGenerate_call (k height : UInt8) : PCall Try.prog 4 [byteV k, byteV height] (.bool true) := by
  refine pcall_body Try.func4 rfl Try.call4 ?_ ?_
  rotate_left 1
  refine awp_slots (s' := [(byteV k : V), (byteV height : V), .junk, .junk, .junk, .junk, .junk, .junk, .junk, .junk, .junk, .junk, .junk, .junk, .junk, .junk, .junk, .junk, .junk, .junk, .junk, .junk, .junk, .junk, .junk, .junk, .junk, .junk, .junk, .junk, .junk, .junk, .junk, .junk, .junk, .junk, .junk, .junk, .junk, .junk, .junk, .junk, .junk]) rfl ?_
  have hc : k.toNat < 256 := UInt8.toNat_lt _
  have hc2 : height.toNat < 256 := UInt8.toNat_lt _
  obtain ⟨h, hhe⟩ : ∃ h : Nat, height.toNat % 4 = h := ⟨_, rfl⟩
  have hh : (height.toNat : Int) % 4 = (h : Int) := by omega
  have hh8 : h ≤ 8 := by omega
  have hs : (mseedS k.toNat).length = 32 := mseedS_length _
  have hsl := shl_one h hh8
  have hkc := key_call (mseedS k.toNat) h false hs hh8
  have hko := keyOf_call (mseedS k.toNat) h hh8
  have hlv := leaves_call (mseedS k.toNat) h true (seed_ne hs) hh8
  have htr := tree_call k.toNat h hh8
  unfold keyV at hkc hko
  generalize 2 ^ h = p at *
  repeat' (first
    | ((first | refine arun_go0 rfl fun K9 h9 => ?_ | refine arunD_goF rfl rfl fun K9 h9 => ?_ | refine arunD_goT rfl rfl fun K9 h9 => ?_ | (refine arun_go ?_ ?_; (focus (simp [hh, hsl, aeq_key]; done)); intro K9 h9) | ((first | refine arunD_gF rfl ?_ ?_ | refine arunD_gT rfl ?_ ?_); (focus (simp [hh, hsl, aeq_key]; done)); intro K9 h9)); simp (disch := (first | (simp; done) | omega | (simp; omega))) [hh, hsl, aeq_key]; (try simp (disch := (first | omega | (simp; omega))) only [wrap_i64, wrap_u8, wrap_u32, wrap_u64, Int.tmod_eq_emod_of_nonneg, Int.tdiv_eq_ediv_of_nonneg]); (first | refine acall_pure (mseed_call _) (by simp) ?_ | refine acall_pure (awake12_call) (by simp) ?_ | refine acall_pure (htr) (by simp) ?_ | refine acall_pure (hko) (by simp) ?_ | refine acall_newT (generate_call (mseedS k.toNat) h hs hh8) (trR_pures _ _ _) .int (by simp) ?_ | refine acallF_mut 0 hkc rfl (trR_pures _ _ _) (trR_pures _ _ _) (by simp) (by simp) ?_ | refine aeffS_int (kd := .i64) rfl (by kernel_rfl) (by kernel_rfl) ?_ | refine acall_view hlv ⟨view_ref rfl (by simp) (trR_pures _ _ _), trivial⟩ .int ?_ | skip); (repeat (refine And.intro (by first | omega | (simp; first | done | omega) | assumption | (intro e9; have e8 := congrArg List.length e9; first | (simp at e8; done) | ((try simp only [List.length_map, List.length_append] at e8); rw [List.length_nil] at e8; omega))) ?_)); (first | refine h9 _ _ (arun_slots (by first | (dsimp only [sput, sset]; done) | rfl) ?_) | refine h9 _ _ (arunD_slots' (by first | (dsimp only [sput, sset]; done) | rfl) (by first | (dsimp only [List.tail]; done) | rfl) ?_)); clear h9 K9)
    | (refine arun_end ?_)
    | (refine arunD_end ?_)
    | (refine awp_seq fun K hK => ?_)
    | (refine awp_region ?_)
    | (refine hK _ _ ?_; clear hK K)
    | ((first | refine awp_region_draw' (m := 1) (by decide +kernel) [0, 0, 0, 2, 0, 3] (by kernel_rfl) (by decide +kernel) ?_ | refine awp_region_draw' (m := 1) (by decide +kernel) [] (by kernel_rfl) (by decide +kernel) ?_); dsimp only [List.replicate, List.append_nil, List.cons_append, List.nil_append, List.length_cons, List.length_nil])
    | (refine awp_cond rfl (fun hcnd => ?_) (fun hcnd => ?_) <;> (try simp at hcnd) <;> (try contradiction) <;> (try (exfalso; omega)))
    | (refine awp_skip ?_)
    | (refine awp_ret ?_; refine ret_go ?_)
    | (refine arun_no ?_ ?_; (focus (simp [hh, hsl, aeq_key]; done)); refine arun_slots (by first | (dsimp only [sput, sset]; done) | rfl) ?_)
    | ((first | refine arunD_nF rfl ?_ ?_ | refine arunD_nT rfl ?_ ?_); (focus (simp [hh, hsl, aeq_key]; done)); refine arunD_slots' (by first | (dsimp only [sput, sset]; done) | rfl) (by first | (dsimp only [List.tail]; done) | rfl) ?_)
    | (refine fall_go ?_)
    | (simp only [athen_normal, athen_exit, athen_ret, ablock_self, ablock_ne, ablock_normal, ablock_ret, Nat.reduceBEq])
    | (clear hK K; refine hK _ _ ?_; clear hK K)
    | (clear hK K; clear hK K; refine hK _ _ ?_; clear hK K)
    | (clear hK K; clear hK K; clear hK K; refine hK _ _ ?_; clear hK K)
    | (clear hK K; clear hK K; clear hK K; clear hK K; refine hK _ _ ?_; clear hK K)
    | (clear hK K; clear hK K; clear hK K; clear hK K; clear hK K; refine hK _ _ ?_; clear hK K))
  · simp
    exact .pure .bool
  · exact .bool

set_option maxRecDepth 100000 in
set_option maxHeartbeats 4000000 in
theorem merkleSign_call (k height leaf : UInt8) (m : List UInt8) (hm : m.length ≤ 140737488355328) : PCall Try.prog 6 [byteV k, byteV height, byteV leaf, .str m] (.bool true) := by
  refine pcall_body Try.func6 rfl Try.call6 ?_ ?_
  rotate_left 1
  refine awp_slots (s' := ((byteV k : V) :: (byteV height : V) :: (byteV leaf : V) :: (.str m : V) :: V.junk :: V.junk :: V.junk :: V.junk :: V.junk :: V.junk :: V.junk :: V.junk :: V.junk :: V.junk :: V.junk :: V.junk :: V.junk :: V.junk :: V.junk :: V.junk :: V.junk :: V.junk :: V.junk :: V.junk :: V.junk :: V.junk :: V.junk :: V.junk :: V.junk :: V.junk :: V.junk :: V.junk :: V.junk :: V.junk :: V.junk :: V.junk :: V.junk :: V.junk :: V.junk :: V.junk :: V.junk :: V.junk :: V.junk :: V.junk :: V.junk :: V.junk :: V.junk :: V.junk :: V.junk :: V.junk :: V.junk :: V.junk :: V.junk :: V.junk :: V.junk :: V.junk :: V.junk :: V.junk :: V.junk :: V.junk :: V.junk :: V.junk :: V.junk :: V.junk :: V.junk :: V.junk :: V.junk :: V.junk :: V.junk :: V.junk :: V.junk :: V.junk :: V.junk :: V.junk :: V.junk :: V.junk :: V.junk :: V.junk :: V.junk :: V.junk :: V.junk :: V.junk :: V.junk :: V.junk :: V.junk :: V.junk :: V.junk :: V.junk :: V.junk :: V.junk :: V.junk :: [])) rfl ?_
  by_cases h3 : (300 : Int) < m.length
  · repeat' (first
    | ((first | refine arun_go0 rfl fun K9 h9 => ?_ | refine arunD_goF rfl rfl fun K9 h9 => ?_ | refine arunD_goT rfl rfl fun K9 h9 => ?_ | (refine arun_go ?_ ?_; (focus (simp [h3]; done)); intro K9 h9) | ((first | refine arunD_gF rfl ?_ ?_ | refine arunD_gT rfl ?_ ?_); (focus (simp [h3]; done)); intro K9 h9)); simp (disch := (first | (simp; done) | omega | (simp; omega))) [h3]; (try simp (disch := (first | omega | (simp; omega))) only [wrap_i64, wrap_u8, wrap_u32, wrap_u64, Int.tmod_eq_emod_of_nonneg, Int.tdiv_eq_ediv_of_nonneg]); (first | refine acall_pure (awake12_call) (by simp) ?_ | skip); (repeat (refine And.intro (by first | omega | (simp; first | done | omega) | assumption | (intro e9; have e8 := congrArg List.length e9; first | (simp at e8; done) | ((try simp only [List.length_map, List.length_append] at e8); rw [List.length_nil] at e8; omega))) ?_)); (first | refine h9 _ _ (arun_slots (by first | (dsimp only [sput, sset]; done) | rfl) ?_) | refine h9 _ _ (arunD_slots' (by first | (dsimp only [sput, sset]; done) | rfl) (by first | (dsimp only [List.tail]; done) | rfl) ?_)); clear h9 K9)
    | (refine arun_end ?_)
    | (refine arunD_end ?_)
    | (refine awp_seq fun K hK => ?_)
    | (refine awp_region ?_)
    | (refine hK _ _ ?_; clear hK K)
    | ((first | refine awp_region_draw' (m := 2) (by decide +kernel) [] (by kernel_rfl) (by decide +kernel) ?_); dsimp only [List.replicate, List.append_nil, List.cons_append, List.nil_append, List.length_cons, List.length_nil])
    | (refine awp_cond rfl (fun hcnd => ?_) (fun hcnd => ?_) <;> (try simp at hcnd) <;> (try contradiction) <;> (try (exfalso; omega)))
    | (refine awp_skip ?_)
    | (refine awp_ret ?_; refine ret_go ?_)
    | (refine arun_no ?_ ?_; (focus (simp [h3]; done)); refine arun_slots (by first | (dsimp only [sput, sset]; done) | rfl) ?_)
    | ((first | refine arunD_nF rfl ?_ ?_ | refine arunD_nT rfl ?_ ?_); (focus (simp [h3]; done)); refine arunD_slots' (by first | (dsimp only [sput, sset]; done) | rfl) (by first | (dsimp only [List.tail]; done) | rfl) ?_)
    | (refine fall_go ?_)
    | (simp only [athen_normal, athen_exit, athen_ret, ablock_self, ablock_ne, ablock_normal, ablock_ret, Nat.reduceBEq])
    | (clear hK K; refine hK _ _ ?_; clear hK K)
    | (clear hK K; clear hK K; refine hK _ _ ?_; clear hK K)
    | (clear hK K; clear hK K; clear hK K; refine hK _ _ ?_; clear hK K)
    | (clear hK K; clear hK K; clear hK K; clear hK K; refine hK _ _ ?_; clear hK K)
    | (clear hK K; clear hK K; clear hK K; clear hK K; clear hK K; refine hK _ _ ?_; clear hK K))
    simp
    exact .pure .bool
  have hc : k.toNat < 256 := UInt8.toNat_lt _
  have hc2 : height.toNat < 256 := UInt8.toNat_lt _
  have hc3 : leaf.toNat < 256 := UInt8.toNat_lt _
  obtain ⟨h, hhe⟩ : ∃ h : Nat, height.toNat % 3 = h := ⟨_, rfl⟩
  have hh : (height.toNat : Int) % 3 = (h : Int) := by omega
  have hh8 : h ≤ 8 := by omega
  have hp0 : 0 < 2 ^ h := Nat.two_pow_pos h
  have hs : (mseedS k.toNat).length = 32 := mseedS_length _
  have hsl := shl_one h hh8
  have htr := tree_call k.toNat h hh8
  obtain ⟨f, hfe⟩ : ∃ f : Nat, leaf.toNat % 2 ^ h = f := ⟨_, rfl⟩
  have hf : f < 2 ^ h := by rw [← hfe]; exact Nat.mod_lt _ hp0
  have hts := tsign_call (mseedS k.toNat) h false f m hs hh8 hf (by omega)
  have hrs := signTree_call (mseedS k.toNat) h f m hs hh8 hf (by omega)
  have hlf := leaf_call (sgnS (mseedS k.toNat) h f m) (by rw [sgnS_length _ _ _ _ hf]; omega)
  rw [leafV_sgn _ _ _ _ hh8 hf] at hlf
  obtain ⟨p, hp⟩ : ∃ p, 2 ^ h = p := ⟨_, rfl⟩
  rw [hp] at hf hp0 hsl hfe
  have hff : (leaf.toNat : Int) % (p : Int) = (f : Int) := by omega
  repeat' (first
    | ((first | refine arun_go0 rfl fun K9 h9 => ?_ | refine arunD_goF rfl rfl fun K9 h9 => ?_ | refine arunD_goT rfl rfl fun K9 h9 => ?_ | (refine arun_go ?_ ?_; (focus (simp [h3, hh, hsl, hff]; done)); intro K9 h9) | ((first | refine arunD_gF rfl ?_ ?_ | refine arunD_gT rfl ?_ ?_); (focus (simp [h3, hh, hsl, hff]; done)); intro K9 h9)); simp (disch := (first | (simp; done) | omega | (simp; omega))) [h3, hh, hsl, hff]; (try simp (disch := (first | omega | (simp; omega))) only [wrap_i64, wrap_u8, wrap_u32, wrap_u64, Int.tmod_eq_emod_of_nonneg, Int.tdiv_eq_ediv_of_nonneg]); (first | refine acall_pure (mseed_call _) (by simp) ?_ | refine acall_pure (awake12_call) (by simp) ?_ | refine acall_pure (htr) (by simp) ?_ | refine acall_pure (hrs) (by simp) ?_ | refine acall_pure (hlf) (by simp) ?_ | refine acall_newT (generate_call (mseedS k.toNat) h hs hh8) (trR_pures _ _ _) .int (by simp) ?_ | refine acall_mut 0 hts rfl (trR_pures _ _ _) (trR_pures _ _ _) (by simp) (by simp) ?_ | skip); (repeat (refine And.intro (by first | omega | (simp; first | done | omega) | assumption | (intro e9; have e8 := congrArg List.length e9; first | (simp at e8; done) | ((try simp only [List.length_map, List.length_append] at e8); rw [List.length_nil] at e8; omega))) ?_)); (first | refine h9 _ _ (arun_slots (by first | (dsimp only [sput, sset]; done) | rfl) ?_) | refine h9 _ _ (arunD_slots' (by first | (dsimp only [sput, sset]; done) | rfl) (by first | (dsimp only [List.tail]; done) | rfl) ?_)); clear h9 K9)
    | (refine arun_end ?_)
    | (refine arunD_end ?_)
    | (refine awp_seq fun K hK => ?_)
    | (refine awp_region ?_)
    | (refine hK _ _ ?_; clear hK K)
    | ((first | refine awp_region_draw' (m := 2) (by decide +kernel) [] (by kernel_rfl) (by decide +kernel) ?_); dsimp only [List.replicate, List.append_nil, List.cons_append, List.nil_append, List.length_cons, List.length_nil])
    | (refine awp_cond rfl (fun hcnd => ?_) (fun hcnd => ?_) <;> (try simp at hcnd) <;> (try contradiction) <;> (try (exfalso; omega)))
    | (refine awp_skip ?_)
    | (refine awp_ret ?_; refine ret_go ?_)
    | (refine arun_no ?_ ?_; (focus (simp [h3, hh, hsl, hff]; done)); refine arun_slots (by first | (dsimp only [sput, sset]; done) | rfl) ?_)
    | ((first | refine arunD_nF rfl ?_ ?_ | refine arunD_nT rfl ?_ ?_); (focus (simp [h3, hh, hsl, hff]; done)); refine arunD_slots' (by first | (dsimp only [sput, sset]; done) | rfl) (by first | (dsimp only [List.tail]; done) | rfl) ?_)
    | (refine fall_go ?_)
    | (simp only [athen_normal, athen_exit, athen_ret, ablock_self, ablock_ne, ablock_normal, ablock_ret, Nat.reduceBEq])
    | (clear hK K; refine hK _ _ ?_; clear hK K)
    | (clear hK K; clear hK K; refine hK _ _ ?_; clear hK K)
    | (clear hK K; clear hK K; clear hK K; refine hK _ _ ?_; clear hK K)
    | (clear hK K; clear hK K; clear hK K; clear hK K; refine hK _ _ ?_; clear hK K)
    | (clear hK K; clear hK K; clear hK K; clear hK K; clear hK K; refine hK _ _ ?_; clear hK K))
  · simp
    exact .pure .bool
  · exact .bool
set_option maxRecDepth 100000 in
theorem merkleGenerate_fits : ∀ xs, FitsAll Try.prog 8 Try.f4.params.toList xs → PCall Try.prog 4 xs (.bool true) := by
  intro xs h
  rw [show Try.f4.params.toList = [5, 5] by kernel_rfl] at h
  obtain ⟨x1, xs, rfl, h1, h⟩ := fitsAll_cons h
  obtain ⟨x2, xs, rfl, h2, h⟩ := fitsAll_cons h
  obtain rfl := fitsAll_nil h
  obtain ⟨k, rfl⟩ := fits_u8 (by kernel_rfl) h1
  obtain ⟨height, rfl⟩ := fits_u8 (by kernel_rfl) h2
  exact merkleGenerate_call k height
set_option maxRecDepth 100000 in
theorem merkleSign_fits : ∀ xs, FitsAll Try.prog 8 Try.f6.params.toList xs → PCall Try.prog 6 xs (.bool true) := by
  intro xs h
  rw [show Try.f6.params.toList = [5, 5, 5, 9] by kernel_rfl] at h
  obtain ⟨x1, xs, rfl, h1, h⟩ := fitsAll_cons h
  obtain ⟨x2, xs, rfl, h2, h⟩ := fitsAll_cons h
  obtain ⟨x3, xs, rfl, h3, h⟩ := fitsAll_cons h
  obtain ⟨x4, xs, rfl, h4, h⟩ := fitsAll_cons h
  obtain rfl := fitsAll_nil h
  obtain ⟨k, rfl⟩ := fits_u8 (by kernel_rfl) h1
  obtain ⟨height, rfl⟩ := fits_u8 (by kernel_rfl) h2
  obtain ⟨leaf, rfl⟩ := fits_u8 (by kernel_rfl) h3
  obtain ⟨m, hm, rfl⟩ := fits_str (by kernel_rfl) h4
  exact merkleSign_call k height leaf m hm
end Go.Proofs.Ythcdofbmmibgjaa
