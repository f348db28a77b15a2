/-
  CONTRACTS: MerkleVerify; what a law is handed as a key.
  Conditions: none.
-/
import Derived.Test.YthcdofbmmibgjaaM14
import Derived.Test.YthcdofbmmibgjaaM13
import Derived.Test.YthcdofbmmibgjaaM18
namespace Go.Proofs.Ythcdofbmmibgjaa
open Go.VS
set_option linter.all false
attribute [local irreducible] arun arunD AWp aend shaS shaT leafN verE

set_option maxRecDepth 100000 in
set_option maxHeartbeats 8000000 in
theorem merkleVerify_call (k height leaf : UInt8) (m o : List UInt8) (l : List Int) (hm : m.length ≤ 140737488355328) (ho : o.length ≤ 140737488355328) (hl : l.length ≤ 140737488355328) (hr : ∀ k ∈ l, -9223372036854775808 ≤ k ∧ k ≤ 9223372036854775807) :
    PCall Try.prog 7 [byteV k, byteV height, byteV leaf, .str m, .str o, .sl l.length (l.map (V.int .i64))] (.bool true) := by
  refine pcall_body Try.func7 rfl Try.call7 ?_ ?_
  rotate_left 1
  refine awp_slots (s' := ((byteV k : V) :: (byteV height : V) :: (byteV leaf : V) :: (.str m : V) :: (.str o : V) :: (.sl l.length (l.map (V.int .i64)) : V) :: V.junk :: V.junk :: V.junk :: V.junk :: V.junk :: V.junk :: V.junk :: V.junk :: V.junk :: V.junk :: V.junk :: V.junk :: V.junk :: V.junk :: V.junk :: V.junk :: V.junk :: V.junk :: V.junk :: V.junk :: V.junk :: V.junk :: V.junk :: V.junk :: V.junk :: V.junk :: V.junk :: V.junk :: V.junk :: V.junk :: V.junk :: V.junk :: V.junk :: V.junk :: V.junk :: V.junk :: V.junk :: V.junk :: V.junk :: V.junk :: V.junk :: V.junk :: V.junk :: V.junk :: V.junk :: V.junk :: V.junk :: V.junk :: V.junk :: V.junk :: V.junk :: V.junk :: V.junk :: V.junk :: V.junk :: V.junk :: V.junk :: V.junk :: V.junk :: V.junk :: V.junk :: V.junk :: V.junk :: V.junk :: V.junk :: V.junk :: V.junk :: V.junk :: V.junk :: V.junk :: V.junk :: V.junk :: V.junk :: V.junk :: V.junk :: V.junk :: V.junk :: V.junk :: V.junk :: V.junk :: V.junk :: V.junk :: V.junk :: V.junk :: V.junk :: V.junk :: V.junk :: V.junk :: V.junk :: V.junk :: V.junk :: V.junk :: V.junk :: V.junk :: V.junk :: [])) rfl ?_
  by_cases c1 : (200 : Int) < m.length
  · repeat' (first
    | ((first | refine arun_go0 rfl fun K9 h9 => ?_ | refine arunD_goF rfl rfl fun K9 h9 => ?_ | refine arunD_goT rfl rfl fun K9 h9 => ?_ | (refine arun_go ?_ ?_; (focus (simp [c1]; done)); intro K9 h9) | ((first | refine arunD_gF rfl ?_ ?_ | refine arunD_gT rfl ?_ ?_); (focus (simp [c1]; done)); intro K9 h9)); simp (disch := (first | (simp; done) | omega | (simp; omega))) [c1]; (try simp (disch := (first | omega | (simp; omega))) only [wrap_i64, wrap_u8, wrap_u32, wrap_u64, Int.tmod_eq_emod_of_nonneg, Int.tdiv_eq_ediv_of_nonneg]); (first | refine acall_pure (awake12_call) (by simp) ?_ | skip); (repeat (refine And.intro (by first | omega | (simp; first | done | omega) | assumption | (intro e9; have e8 := congrArg List.length e9; first | (simp at e8; done) | ((try simp only [List.length_map, List.length_append] at e8); rw [List.length_nil] at e8; omega))) ?_)); (first | refine h9 _ _ (arun_slots (by first | (dsimp only [sput, sset]; done) | rfl) ?_) | refine h9 _ _ (arunD_slots' (by first | (dsimp only [sput, sset]; done) | rfl) (by first | (dsimp only [List.tail]; done) | rfl) ?_)); clear h9 K9)
    | (refine arun_end ?_)
    | (refine arunD_end ?_)
    | (refine awp_seq fun K hK => ?_)
    | (refine awp_region ?_)
    | (refine hK _ _ ?_; clear hK K)
    | ((first | refine awp_region_draw' (m := 0) (by decide +kernel) [] (by kernel_rfl) (by decide +kernel) ?_ | refine awp_region_draw' (m := 1) (by decide +kernel) [] (by kernel_rfl) (by decide +kernel) ?_); dsimp only [List.replicate, List.append_nil, List.cons_append, List.nil_append, List.length_cons, List.length_nil])
    | (refine awp_block ?_)
    | (refine awp_cond rfl (fun hcnd => ?_) (fun hcnd => ?_) <;> (try simp at hcnd) <;> (try contradiction) <;> (try (exfalso; omega)))
    | (refine awp_skip ?_)
    | (refine awp_ret ?_; refine ret_go ?_)
    | (refine arun_no ?_ ?_; (focus (simp [c1]; done)); refine arun_slots (by first | (dsimp only [sput, sset]; done) | rfl) ?_)
    | ((first | refine arunD_nF rfl ?_ ?_ | refine arunD_nT rfl ?_ ?_); (focus (simp [c1]; done)); refine arunD_slots' (by first | (dsimp only [sput, sset]; done) | rfl) (by first | (dsimp only [List.tail]; done) | rfl) ?_)
    | (refine fall_go ?_)
    | (simp only [athen_normal, athen_exit, athen_ret, ablock_self, ablock_ne, ablock_normal, ablock_ret, Nat.reduceBEq])
    | (clear hK K; refine hK _ _ ?_; clear hK K)
    | (clear hK K; clear hK K; refine hK _ _ ?_; clear hK K)
    | (clear hK K; clear hK K; clear hK K; refine hK _ _ ?_; clear hK K)
    | (clear hK K; clear hK K; clear hK K; clear hK K; refine hK _ _ ?_; clear hK K)
    | (clear hK K; clear hK K; clear hK K; clear hK K; clear hK K; refine hK _ _ ?_; clear hK K))
    simp
    exact .pure .bool
  by_cases c2 : (200 : Int) < o.length
  · repeat' (first
    | ((first | refine arun_go0 rfl fun K9 h9 => ?_ | refine arunD_goF rfl rfl fun K9 h9 => ?_ | refine arunD_goT rfl rfl fun K9 h9 => ?_ | (refine arun_go ?_ ?_; (focus (simp [c1, c2]; done)); intro K9 h9) | ((first | refine arunD_gF rfl ?_ ?_ | refine arunD_gT rfl ?_ ?_); (focus (simp [c1, c2]; done)); intro K9 h9)); simp (disch := (first | (simp; done) | omega | (simp; omega))) [c1, c2]; (try simp (disch := (first | omega | (simp; omega))) only [wrap_i64, wrap_u8, wrap_u32, wrap_u64, Int.tmod_eq_emod_of_nonneg, Int.tdiv_eq_ediv_of_nonneg]); (first | refine acall_pure (awake12_call) (by simp) ?_ | skip); (repeat (refine And.intro (by first | omega | (simp; first | done | omega) | assumption | (intro e9; have e8 := congrArg List.length e9; first | (simp at e8; done) | ((try simp only [List.length_map, List.length_append] at e8); rw [List.length_nil] at e8; omega))) ?_)); (first | refine h9 _ _ (arun_slots (by first | (dsimp only [sput, sset]; done) | rfl) ?_) | refine h9 _ _ (arunD_slots' (by first | (dsimp only [sput, sset]; done) | rfl) (by first | (dsimp only [List.tail]; done) | rfl) ?_)); clear h9 K9)
    | (refine arun_end ?_)
    | (refine arunD_end ?_)
    | (refine awp_seq fun K hK => ?_)
    | (refine awp_region ?_)
    | (refine hK _ _ ?_; clear hK K)
    | ((first | refine awp_region_draw' (m := 0) (by decide +kernel) [] (by kernel_rfl) (by decide +kernel) ?_ | refine awp_region_draw' (m := 1) (by decide +kernel) [] (by kernel_rfl) (by decide +kernel) ?_); dsimp only [List.replicate, List.append_nil, List.cons_append, List.nil_append, List.length_cons, List.length_nil])
    | (refine awp_block ?_)
    | (refine awp_cond rfl (fun hcnd => ?_) (fun hcnd => ?_) <;> (try simp at hcnd) <;> (try contradiction) <;> (try (exfalso; omega)))
    | (refine awp_skip ?_)
    | (refine awp_ret ?_; refine ret_go ?_)
    | (refine arun_no ?_ ?_; (focus (simp [c1, c2]; done)); refine arun_slots (by first | (dsimp only [sput, sset]; done) | rfl) ?_)
    | ((first | refine arunD_nF rfl ?_ ?_ | refine arunD_nT rfl ?_ ?_); (focus (simp [c1, c2]; done)); refine arunD_slots' (by first | (dsimp only [sput, sset]; done) | rfl) (by first | (dsimp only [List.tail]; done) | rfl) ?_)
    | (refine fall_go ?_)
    | (simp only [athen_normal, athen_exit, athen_ret, ablock_self, ablock_ne, ablock_normal, ablock_ret, Nat.reduceBEq])
    | (clear hK K; refine hK _ _ ?_; clear hK K)
    | (clear hK K; clear hK K; refine hK _ _ ?_; clear hK K)
    | (clear hK K; clear hK K; clear hK K; refine hK _ _ ?_; clear hK K)
    | (clear hK K; clear hK K; clear hK K; clear hK K; refine hK _ _ ?_; clear hK K)
    | (clear hK K; clear hK K; clear hK K; clear hK K; clear hK K; refine hK _ _ ?_; clear hK K))
    simp
    exact .pure .bool
  have hc : k.toNat < 256 := UInt8.toNat_lt _
  have hc2 : height.toNat < 256 := UInt8.toNat_lt _
  have hc3 : leaf.toNat < 256 := UInt8.toNat_lt _
  obtain ⟨h, hhe⟩ : ∃ h : Nat, height.toNat % 3 = h := ⟨_, rfl⟩
  have hh : (height.toNat : Int) % 3 = (h : Int) := by omega
  have hh8 : h ≤ 8 := by omega
  have hp0 : 0 < 2 ^ h := Nat.two_pow_pos h
  have hs : (mseedS k.toNat).length = 32 := mseedS_length _
  have hsl := shl_one h hh8
  have htr := tree_call k.toNat h hh8
  have hko := keyOf_call (mseedS k.toNat) h hh8
  obtain ⟨f, hfe⟩ : ∃ f : Nat, leaf.toNat % 2 ^ h = f := ⟨_, rfl⟩
  have hf : f < 2 ^ h := by rw [← hfe]; exact Nat.mod_lt _ hp0
  have hrs := signTree_call (mseedS k.toNat) h f m hs hh8 hf (by omega)
  have hsgl := sgnS_length (mseedS k.toNat) h f m hf
  have hvs := verify_call h (idS (mseedS k.toNat)) (rootS (idS (mseedS k.toNat)) (mseedS k.toNat) h) m (sgnS (mseedS k.toNat) h f m) (by simp) (by simp) (by omega) (by omega)
  rw [verE_sgn (mseedS k.toNat) h f m hh8 hf] at hvs
  have hil := idS_length (mseedS k.toNat)
  have hrl := rootS_length (idS (mseedS k.toNat)) (mseedS k.toNat) h
  obtain ⟨p, hp⟩ : ∃ p, 2 ^ h = p := ⟨_, rfl⟩
  rw [hp] at hf hp0 hsl hfe
  have hff : (leaf.toNat : Int) % (p : Int) = (f : Int) := by omega
  unfold rtV at htr hko hrs
  unfold keyV at hko
  generalize idS (mseedS k.toNat) = id at *
  generalize rootS id (mseedS k.toNat) h = root at *
  generalize sgnS (mseedS k.toNat) h f m = sg at *
  have hsn : sg ≠ [] := List.ne_nil_of_length_pos (by omega)
  have hin : id ≠ [] := List.ne_nil_of_length_pos (by omega)
  have hrn : root ≠ [] := List.ne_nil_of_length_pos (by omega)
  have dc := damage_call l 0 sg hl (by omega) hsn (by omega) hr
  have hxl := dm_length sg l 0 hsn
  have d3 : dkA l (dkA l (dkA l 0)) ≤ l.length := dkA_le (dkA_le (dkA_le (by omega)))
  generalize dm sg l 0 = x at *
  generalize dkA l (dkA l (dkA l 0)) = a3 at *
  have nc := next_call l a3 6 hl d3 (by omega) (by omega) hr
  have nb := dkX_bounds (l := l) (a := a3) (n := 6) (by omega)
  have d4 : dkA l a3 ≤ l.length := dkA_le d3
  generalize dkA l a3 = a4 at *
  generalize dkX l a3 6 = c at *
  clear hfe hhe hp
  have fin : ∀ (h' : Int) (id' root' m' : List UInt8), id'.length ≤ 1000 → root'.length ≤ 1000 → m'.length ≤ 1000 →
      PCall Try.prog 34 [.agg [.int .i64 h', .str id', .str root'], .str m', .str x] (.int .i64 (verE h' id' root' m' x)) ∧ PCall Try.prog 35 [.agg [.int .i64 h', .str id', .str root'], .str m', .str x] (.int .i64 (verE h' id' root' m' x)) :=
    fun h' id' root' m' q1 q2 q3 => ⟨verify_call h' id' root' m' x (by omega) (by omega) q3 (by omega), rverify_call h' id' root' m' x (by omega) (by omega) q3 (by omega)⟩
  obtain rfl | rfl | rfl | rfl | rfl | rfl : c = 0 ∨ c = 1 ∨ c = 2 ∨ c = 3 ∨ c = 4 ∨ c = 5 := by omega
  · have n2 := next_call l a4 12 hl d4 (by omega) (by omega) hr
    have b2 := dkX_bounds (l := l) (a := a4) (n := 12) (by omega)
    generalize dkX l a4 12 = e at *
    generalize dkA l a4 = a5 at *
    obtain ⟨f1, f2⟩ := fin (e - 1) id root m (by omega) (by omega) (by omega)
    generalize verE (e - 1) id root m x = ve at *
    repeat' (first
    | ((first | refine arun_go0 rfl fun K9 h9 => ?_ | refine arunD_goF rfl rfl fun K9 h9 => ?_ | refine arunD_goT rfl rfl fun K9 h9 => ?_ | (refine arun_go ?_ ?_; (focus (simp [c1, c2, hh, hsl, hff]; done)); intro K9 h9) | ((first | refine arunD_gF rfl ?_ ?_ | refine arunD_gT rfl ?_ ?_); (focus (simp [c1, c2, hh, hsl, hff]; done)); intro K9 h9)); simp (disch := (first | (simp; done) | omega | (simp; omega))) [c1, c2, hh, hsl, hff]; (try simp (disch := (first | omega | (simp; omega))) only [wrap_i64, wrap_u8, wrap_u32, wrap_u64, Int.tmod_eq_emod_of_nonneg, Int.tdiv_eq_ediv_of_nonneg]); (first | refine acall_pure (awake12_call) (by simp) ?_ | refine acall_pure (htr) (by simp) ?_ | refine acall_pure (hko) (by simp) ?_ | refine acall_pure (hrs) (by simp) ?_ | refine acall_pure (f1) (by simp) ?_ | refine acall_pure (f2) (by simp) ?_ | refine acall_pure (hvs) (by simp) ?_ | refine acall_new (deck_call l) (by simp) (by simp) ?_ | refine acall_mut 2 dc rfl (by simp) (by simp) .str (by simp) ?_ | refine acall_mut 2 nc rfl (by simp) (by simp) .int (by simp) ?_ | refine acall_mut 2 n2 rfl (by simp) (by simp) .int (by simp) ?_ | skip); (repeat (refine And.intro (by first | omega | (simp; first | done | omega) | assumption | (intro e9; have e8 := congrArg List.length e9; first | (simp at e8; done) | ((try simp only [List.length_map, List.length_append] at e8); rw [List.length_nil] at e8; omega))) ?_)); (first | refine h9 _ _ (arun_slots (by first | (dsimp only [sput, sset]; done) | rfl) ?_) | refine h9 _ _ (arunD_slots' (by first | (dsimp only [sput, sset]; done) | rfl) (by first | (dsimp only [List.tail]; done) | rfl) ?_)); clear h9 K9)
    | (refine arun_end ?_)
    | (refine arunD_end ?_)
    | (refine awp_seq fun K hK => ?_)
    | (refine awp_region ?_)
    | (refine hK _ _ ?_; clear hK K)
    | ((first | refine awp_region_draw' (m := 0) (by decide +kernel) [] (by kernel_rfl) (by decide +kernel) ?_ | refine awp_region_draw' (m := 1) (by decide +kernel) [] (by kernel_rfl) (by decide +kernel) ?_); dsimp only [List.replicate, List.append_nil, List.cons_append, List.nil_append, List.length_cons, List.length_nil])
    | (refine awp_block ?_)
    | (refine awp_cond rfl (fun hcnd => ?_) (fun hcnd => ?_) <;> (try simp at hcnd) <;> (try contradiction) <;> (try (exfalso; omega)))
    | (refine awp_skip ?_)
    | (refine awp_ret ?_; refine ret_go ?_)
    | (refine arun_no ?_ ?_; (focus (simp [c1, c2, hh, hsl, hff]; done)); refine arun_slots (by first | (dsimp only [sput, sset]; done) | rfl) ?_)
    | ((first | refine arunD_nF rfl ?_ ?_ | refine arunD_nT rfl ?_ ?_); (focus (simp [c1, c2, hh, hsl, hff]; done)); refine arunD_slots' (by first | (dsimp only [sput, sset]; done) | rfl) (by first | (dsimp only [List.tail]; done) | rfl) ?_)
    | (refine fall_go ?_)
    | (simp only [athen_normal, athen_exit, athen_ret, ablock_self, ablock_ne, ablock_normal, ablock_ret, Nat.reduceBEq])
    | (clear hK K; refine hK _ _ ?_; clear hK K)
    | (clear hK K; clear hK K; refine hK _ _ ?_; clear hK K)
    | (clear hK K; clear hK K; clear hK K; refine hK _ _ ?_; clear hK K)
    | (clear hK K; clear hK K; clear hK K; clear hK K; refine hK _ _ ?_; clear hK K)
    | (clear hK K; clear hK K; clear hK K; clear hK K; clear hK K; refine hK _ _ ?_; clear hK K))
    simp
    exact .pure .bool
  · have n2 := damage_call l a4 id hl d4 hin (by omega) hr
    have b2 := dm_length id l a4 hin
    generalize dm id l a4 = y at *
    obtain ⟨f1, f2⟩ := fin h y root m (by omega) (by omega) (by omega)
    generalize verE h y root m x = ve at *
    repeat' (first
    | ((first | refine arun_go0 rfl fun K9 h9 => ?_ | refine arunD_goF rfl rfl fun K9 h9 => ?_ | refine arunD_goT rfl rfl fun K9 h9 => ?_ | (refine arun_go ?_ ?_; (focus (simp [c1, c2, hh, hsl, hff]; done)); intro K9 h9) | ((first | refine arunD_gF rfl ?_ ?_ | refine arunD_gT rfl ?_ ?_); (focus (simp [c1, c2, hh, hsl, hff]; done)); intro K9 h9)); simp (disch := (first | (simp; done) | omega | (simp; omega))) [c1, c2, hh, hsl, hff]; (try simp (disch := (first | omega | (simp; omega))) only [wrap_i64, wrap_u8, wrap_u32, wrap_u64, Int.tmod_eq_emod_of_nonneg, Int.tdiv_eq_ediv_of_nonneg]); (first | refine acall_pure (awake12_call) (by simp) ?_ | refine acall_pure (htr) (by simp) ?_ | refine acall_pure (hko) (by simp) ?_ | refine acall_pure (hrs) (by simp) ?_ | refine acall_pure (f1) (by simp) ?_ | refine acall_pure (f2) (by simp) ?_ | refine acall_pure (hvs) (by simp) ?_ | refine acall_new (deck_call l) (by simp) (by simp) ?_ | refine acall_mut 2 dc rfl (by simp) (by simp) .str (by simp) ?_ | refine acall_mut 2 nc rfl (by simp) (by simp) .int (by simp) ?_ | refine acall_mut 2 n2 rfl (by simp) (by simp) .str (by simp) ?_ | skip); (repeat (refine And.intro (by first | omega | (simp; first | done | omega) | assumption | (intro e9; have e8 := congrArg List.length e9; first | (simp at e8; done) | ((try simp only [List.length_map, List.length_append] at e8); rw [List.length_nil] at e8; omega))) ?_)); (first | refine h9 _ _ (arun_slots (by first | (dsimp only [sput, sset]; done) | rfl) ?_) | refine h9 _ _ (arunD_slots' (by first | (dsimp only [sput, sset]; done) | rfl) (by first | (dsimp only [List.tail]; done) | rfl) ?_)); clear h9 K9)
    | (refine arun_end ?_)
    | (refine arunD_end ?_)
    | (refine awp_seq fun K hK => ?_)
    | (refine awp_region ?_)
    | (refine hK _ _ ?_; clear hK K)
    | ((first | refine awp_region_draw' (m := 0) (by decide +kernel) [] (by kernel_rfl) (by decide +kernel) ?_ | refine awp_region_draw' (m := 1) (by decide +kernel) [] (by kernel_rfl) (by decide +kernel) ?_); dsimp only [List.replicate, List.append_nil, List.cons_append, List.nil_append, List.length_cons, List.length_nil])
    | (refine awp_block ?_)
    | (refine awp_cond rfl (fun hcnd => ?_) (fun hcnd => ?_) <;> (try simp at hcnd) <;> (try contradiction) <;> (try (exfalso; omega)))
    | (refine awp_skip ?_)
    | (refine awp_ret ?_; refine ret_go ?_)
    | (refine arun_no ?_ ?_; (focus (simp [c1, c2, hh, hsl, hff]; done)); refine arun_slots (by first | (dsimp only [sput, sset]; done) | rfl) ?_)
    | ((first | refine arunD_nF rfl ?_ ?_ | refine arunD_nT rfl ?_ ?_); (focus (simp [c1, c2, hh, hsl, hff]; done)); refine arunD_slots' (by first | (dsimp only [sput, sset]; done) | rfl) (by first | (dsimp only [List.tail]; done) | rfl) ?_)
    | (refine fall_go ?_)
    | (simp only [athen_normal, athen_exit, athen_ret, ablock_self, ablock_ne, ablock_normal, ablock_ret, Nat.reduceBEq])
    | (clear hK K; refine hK _ _ ?_; clear hK K)
    | (clear hK K; clear hK K; refine hK _ _ ?_; clear hK K)
    | (clear hK K; clear hK K; clear hK K; refine hK _ _ ?_; clear hK K)
    | (clear hK K; clear hK K; clear hK K; clear hK K; refine hK _ _ ?_; clear hK K)
    | (clear hK K; clear hK K; clear hK K; clear hK K; clear hK K; refine hK _ _ ?_; clear hK K))
    simp
    exact .pure .bool
  · have n2 := damage_call l a4 root hl d4 hrn (by omega) hr
    have b2 := dm_length root l a4 hrn
    generalize dm root l a4 = y at *
    obtain ⟨f1, f2⟩ := fin h id y m (by omega) (by omega) (by omega)
    generalize verE h id y m x = ve at *
    repeat' (first
    | ((first | refine arun_go0 rfl fun K9 h9 => ?_ | refine arunD_goF rfl rfl fun K9 h9 => ?_ | refine arunD_goT rfl rfl fun K9 h9 => ?_ | (refine arun_go ?_ ?_; (focus (simp [c1, c2, hh, hsl, hff]; done)); intro K9 h9) | ((first | refine arunD_gF rfl ?_ ?_ | refine arunD_gT rfl ?_ ?_); (focus (simp [c1, c2, hh, hsl, hff]; done)); intro K9 h9)); simp (disch := (first | (simp; done) | omega | (simp; omega))) [c1, c2, hh, hsl, hff]; (try simp (disch := (first | omega | (simp; omega))) only [wrap_i64, wrap_u8, wrap_u32, wrap_u64, Int.tmod_eq_emod_of_nonneg, Int.tdiv_eq_ediv_of_nonneg]); (first | refine acall_pure (awake12_call) (by simp) ?_ | refine acall_pure (htr) (by simp) ?_ | refine acall_pure (hko) (by simp) ?_ | refine acall_pure (hrs) (by simp) ?_ | refine acall_pure (f1) (by simp) ?_ | refine acall_pure (f2) (by simp) ?_ | refine acall_pure (hvs) (by simp) ?_ | refine acall_new (deck_call l) (by simp) (by simp) ?_ | refine acall_mut 2 dc rfl (by simp) (by simp) .str (by simp) ?_ | refine acall_mut 2 nc rfl (by simp) (by simp) .int (by simp) ?_ | refine acall_mut 2 n2 rfl (by simp) (by simp) .str (by simp) ?_ | skip); (repeat (refine And.intro (by first | omega | (simp; first | done | omega) | assumption | (intro e9; have e8 := congrArg List.length e9; first | (simp at e8; done) | ((try simp only [List.length_map, List.length_append] at e8); rw [List.length_nil] at e8; omega))) ?_)); (first | refine h9 _ _ (arun_slots (by first | (dsimp only [sput, sset]; done) | rfl) ?_) | refine h9 _ _ (arunD_slots' (by first | (dsimp only [sput, sset]; done) | rfl) (by first | (dsimp only [List.tail]; done) | rfl) ?_)); clear h9 K9)
    | (refine arun_end ?_)
    | (refine arunD_end ?_)
    | (refine awp_seq fun K hK => ?_)
    | (refine awp_region ?_)
    | (refine hK _ _ ?_; clear hK K)
    | ((first | refine awp_region_draw' (m := 0) (by decide +kernel) [] (by kernel_rfl) (by decide +kernel) ?_ | refine awp_region_draw' (m := 1) (by decide +kernel) [] (by kernel_rfl) (by decide +kernel) ?_); dsimp only [List.replicate, List.append_nil, List.cons_append, List.nil_append, List.length_cons, List.length_nil])
    | (refine awp_block ?_)
    | (refine awp_cond rfl (fun hcnd => ?_) (fun hcnd => ?_) <;> (try simp at hcnd) <;> (try contradiction) <;> (try (exfalso; omega)))
    | (refine awp_skip ?_)
    | (refine awp_ret ?_; refine ret_go ?_)
    | (refine arun_no ?_ ?_; (focus (simp [c1, c2, hh, hsl, hff]; done)); refine arun_slots (by first | (dsimp only [sput, sset]; done) | rfl) ?_)
    | ((first | refine arunD_nF rfl ?_ ?_ | refine arunD_nT rfl ?_ ?_); (focus (simp [c1, c2, hh, hsl, hff]; done)); refine arunD_slots' (by first | (dsimp only [sput, sset]; done) | rfl) (by first | (dsimp only [List.tail]; done) | rfl) ?_)
    | (refine fall_go ?_)
    | (simp only [athen_normal, athen_exit, athen_ret, ablock_self, ablock_ne, ablock_normal, ablock_ret, Nat.reduceBEq])
    | (clear hK K; refine hK _ _ ?_; clear hK K)
    | (clear hK K; clear hK K; refine hK _ _ ?_; clear hK K)
    | (clear hK K; clear hK K; clear hK K; refine hK _ _ ?_; clear hK K)
    | (clear hK K; clear hK K; clear hK K; clear hK K; refine hK _ _ ?_; clear hK K)
    | (clear hK K; clear hK K; clear hK K; clear hK K; clear hK K; refine hK _ _ ?_; clear hK K))
    simp
    exact .pure .bool
  · obtain ⟨f1, f2⟩ := fin h id root o (by omega) (by omega) (by omega)
    generalize verE h id root o x = ve at *
    repeat' (first
    | ((first | refine arun_go0 rfl fun K9 h9 => ?_ | refine arunD_goF rfl rfl fun K9 h9 => ?_ | refine arunD_goT rfl rfl fun K9 h9 => ?_ | (refine arun_go ?_ ?_; (focus (simp [c1, c2, hh, hsl, hff]; done)); intro K9 h9) | ((first | refine arunD_gF rfl ?_ ?_ | refine arunD_gT rfl ?_ ?_); (focus (simp [c1, c2, hh, hsl, hff]; done)); intro K9 h9)); simp (disch := (first | (simp; done) | omega | (simp; omega))) [c1, c2, hh, hsl, hff]; (try simp (disch := (first | omega | (simp; omega))) only [wrap_i64, wrap_u8, wrap_u32, wrap_u64, Int.tmod_eq_emod_of_nonneg, Int.tdiv_eq_ediv_of_nonneg]); (first | refine acall_pure (awake12_call) (by simp) ?_ | refine acall_pure (htr) (by simp) ?_ | refine acall_pure (hko) (by simp) ?_ | refine acall_pure (hrs) (by simp) ?_ | refine acall_pure (f1) (by simp) ?_ | refine acall_pure (f2) (by simp) ?_ | refine acall_pure (hvs) (by simp) ?_ | refine acall_new (deck_call l) (by simp) (by simp) ?_ | refine acall_mut 2 dc rfl (by simp) (by simp) .str (by simp) ?_ | refine acall_mut 2 nc rfl (by simp) (by simp) .int (by simp) ?_ | skip); (repeat (refine And.intro (by first | omega | (simp; first | done | omega) | assumption | (intro e9; have e8 := congrArg List.length e9; first | (simp at e8; done) | ((try simp only [List.length_map, List.length_append] at e8); rw [List.length_nil] at e8; omega))) ?_)); (first | refine h9 _ _ (arun_slots (by first | (dsimp only [sput, sset]; done) | rfl) ?_) | refine h9 _ _ (arunD_slots' (by first | (dsimp only [sput, sset]; done) | rfl) (by first | (dsimp only [List.tail]; done) | rfl) ?_)); clear h9 K9)
    | (refine arun_end ?_)
    | (refine arunD_end ?_)
    | (refine awp_seq fun K hK => ?_)
    | (refine awp_region ?_)
    | (refine hK _ _ ?_; clear hK K)
    | ((first | refine awp_region_draw' (m := 0) (by decide +kernel) [] (by kernel_rfl) (by decide +kernel) ?_ | refine awp_region_draw' (m := 1) (by decide +kernel) [] (by kernel_rfl) (by decide +kernel) ?_); dsimp only [List.replicate, List.append_nil, List.cons_append, List.nil_append, List.length_cons, List.length_nil])
    | (refine awp_block ?_)
    | (refine awp_cond rfl (fun hcnd => ?_) (fun hcnd => ?_) <;> (try simp at hcnd) <;> (try contradiction) <;> (try (exfalso; omega)))
    | (refine awp_skip ?_)
    | (refine awp_ret ?_; refine ret_go ?_)
    | (refine arun_no ?_ ?_; (focus (simp [c1, c2, hh, hsl, hff]; done)); refine arun_slots (by first | (dsimp only [sput, sset]; done) | rfl) ?_)
    | ((first | refine arunD_nF rfl ?_ ?_ | refine arunD_nT rfl ?_ ?_); (focus (simp [c1, c2, hh, hsl, hff]; done)); refine arunD_slots' (by first | (dsimp only [sput, sset]; done) | rfl) (by first | (dsimp only [List.tail]; done) | rfl) ?_)
    | (refine fall_go ?_)
    | (simp only [athen_normal, athen_exit, athen_ret, ablock_self, ablock_ne, ablock_normal, ablock_ret, Nat.reduceBEq])
    | (clear hK K; refine hK _ _ ?_; clear hK K)
    | (clear hK K; clear hK K; refine hK _ _ ?_; clear hK K)
    | (clear hK K; clear hK K; clear hK K; refine hK _ _ ?_; clear hK K)
    | (clear hK K; clear hK K; clear hK K; clear hK K; refine hK _ _ ?_; clear hK K)
    | (clear hK K; clear hK K; clear hK K; clear hK K; clear hK K; refine hK _ _ ?_; clear hK K))
    simp
    exact .pure .bool
  · obtain ⟨f1, f2⟩ := fin h id root m (by omega) (by omega) (by omega)
    generalize verE h id root m x = ve at *
    repeat' (first
    | ((first | refine arun_go0 rfl fun K9 h9 => ?_ | refine arunD_goF rfl rfl fun K9 h9 => ?_ | refine arunD_goT rfl rfl fun K9 h9 => ?_ | (refine arun_go ?_ ?_; (focus (simp [c1, c2, hh, hsl, hff]; done)); intro K9 h9) | ((first | refine arunD_gF rfl ?_ ?_ | refine arunD_gT rfl ?_ ?_); (focus (simp [c1, c2, hh, hsl, hff]; done)); intro K9 h9)); simp (disch := (first | (simp; done) | omega | (simp; omega))) [c1, c2, hh, hsl, hff]; (try simp (disch := (first | omega | (simp; omega))) only [wrap_i64, wrap_u8, wrap_u32, wrap_u64, Int.tmod_eq_emod_of_nonneg, Int.tdiv_eq_ediv_of_nonneg]); (first | refine acall_pure (awake12_call) (by simp) ?_ | refine acall_pure (htr) (by simp) ?_ | refine acall_pure (hko) (by simp) ?_ | refine acall_pure (hrs) (by simp) ?_ | refine acall_pure (f1) (by simp) ?_ | refine acall_pure (f2) (by simp) ?_ | refine acall_pure (hvs) (by simp) ?_ | refine acall_new (deck_call l) (by simp) (by simp) ?_ | refine acall_mut 2 dc rfl (by simp) (by simp) .str (by simp) ?_ | refine acall_mut 2 nc rfl (by simp) (by simp) .int (by simp) ?_ | skip); (repeat (refine And.intro (by first | omega | (simp; first | done | omega) | assumption | (intro e9; have e8 := congrArg List.length e9; first | (simp at e8; done) | ((try simp only [List.length_map, List.length_append] at e8); rw [List.length_nil] at e8; omega))) ?_)); (first | refine h9 _ _ (arun_slots (by first | (dsimp only [sput, sset]; done) | rfl) ?_) | refine h9 _ _ (arunD_slots' (by first | (dsimp only [sput, sset]; done) | rfl) (by first | (dsimp only [List.tail]; done) | rfl) ?_)); clear h9 K9)
    | (refine arun_end ?_)
    | (refine arunD_end ?_)
    | (refine awp_seq fun K hK => ?_)
    | (refine awp_region ?_)
    | (refine hK _ _ ?_; clear hK K)
    | ((first | refine awp_region_draw' (m := 0) (by decide +kernel) [] (by kernel_rfl) (by decide +kernel) ?_ | refine awp_region_draw' (m := 1) (by decide +kernel) [] (by kernel_rfl) (by decide +kernel) ?_); dsimp only [List.replicate, List.append_nil, List.cons_append, List.nil_append, List.length_cons, List.length_nil])
    | (refine awp_block ?_)
    | (refine awp_cond rfl (fun hcnd => ?_) (fun hcnd => ?_) <;> (try simp at hcnd) <;> (try contradiction) <;> (try (exfalso; omega)))
    | (refine awp_skip ?_)
    | (refine awp_ret ?_; refine ret_go ?_)
    | (refine arun_no ?_ ?_; (focus (simp [c1, c2, hh, hsl, hff]; done)); refine arun_slots (by first | (dsimp only [sput, sset]; done) | rfl) ?_)
    | ((first | refine arunD_nF rfl ?_ ?_ | refine arunD_nT rfl ?_ ?_); (focus (simp [c1, c2, hh, hsl, hff]; done)); refine arunD_slots' (by first | (dsimp only [sput, sset]; done) | rfl) (by first | (dsimp only [List.tail]; done) | rfl) ?_)
    | (refine fall_go ?_)
    | (simp only [athen_normal, athen_exit, athen_ret, ablock_self, ablock_ne, ablock_normal, ablock_ret, Nat.reduceBEq])
    | (clear hK K; refine hK _ _ ?_; clear hK K)
    | (clear hK K; clear hK K; refine hK _ _ ?_; clear hK K)
    | (clear hK K; clear hK K; clear hK K; refine hK _ _ ?_; clear hK K)
    | (clear hK K; clear hK K; clear hK K; clear hK K; refine hK _ _ ?_; clear hK K)
    | (clear hK K; clear hK K; clear hK K; clear hK K; clear hK K; refine hK _ _ ?_; clear hK K))
    simp
    exact .pure .bool
  · obtain ⟨f1, f2⟩ := fin h id root m (by omega) (by omega) (by omega)
    generalize verE h id root m x = ve at *
    repeat' (first
    | ((first | refine arun_go0 rfl fun K9 h9 => ?_ | refine arunD_goF rfl rfl fun K9 h9 => ?_ | refine arunD_goT rfl rfl fun K9 h9 => ?_ | (refine arun_go ?_ ?_; (focus (simp [c1, c2, hh, hsl, hff]; done)); intro K9 h9) | ((first | refine arunD_gF rfl ?_ ?_ | refine arunD_gT rfl ?_ ?_); (focus (simp [c1, c2, hh, hsl, hff]; done)); intro K9 h9)); simp (disch := (first | (simp; done) | omega | (simp; omega))) [c1, c2, hh, hsl, hff]; (try simp (disch := (first | omega | (simp; omega))) only [wrap_i64, wrap_u8, wrap_u32, wrap_u64, Int.tmod_eq_emod_of_nonneg, Int.tdiv_eq_ediv_of_nonneg]); (first | refine acall_pure (awake12_call) (by simp) ?_ | refine acall_pure (htr) (by simp) ?_ | refine acall_pure (hko) (by simp) ?_ | refine acall_pure (hrs) (by simp) ?_ | refine acall_pure (f1) (by simp) ?_ | refine acall_pure (f2) (by simp) ?_ | refine acall_pure (hvs) (by simp) ?_ | refine acall_new (deck_call l) (by simp) (by simp) ?_ | refine acall_mut 2 dc rfl (by simp) (by simp) .str (by simp) ?_ | refine acall_mut 2 nc rfl (by simp) (by simp) .int (by simp) ?_ | skip); (repeat (refine And.intro (by first | omega | (simp; first | done | omega) | assumption | (intro e9; have e8 := congrArg List.length e9; first | (simp at e8; done) | ((try simp only [List.length_map, List.length_append] at e8); rw [List.length_nil] at e8; omega))) ?_)); (first | refine h9 _ _ (arun_slots (by first | (dsimp only [sput, sset]; done) | rfl) ?_) | refine h9 _ _ (arunD_slots' (by first | (dsimp only [sput, sset]; done) | rfl) (by first | (dsimp only [List.tail]; done) | rfl) ?_)); clear h9 K9)
    | (refine arun_end ?_)
    | (refine arunD_end ?_)
    | (refine awp_seq fun K hK => ?_)
    | (refine awp_region ?_)
    | (refine hK _ _ ?_; clear hK K)
    | ((first | refine awp_region_draw' (m := 0) (by decide +kernel) [] (by kernel_rfl) (by decide +kernel) ?_ | refine awp_region_draw' (m := 1) (by decide +kernel) [] (by kernel_rfl) (by decide +kernel) ?_); dsimp only [List.replicate, List.append_nil, List.cons_append, List.nil_append, List.length_cons, List.length_nil])
    | (refine awp_block ?_)
    | (refine awp_cond rfl (fun hcnd => ?_) (fun hcnd => ?_) <;> (try simp at hcnd) <;> (try contradiction) <;> (try (exfalso; omega)))
    | (refine awp_skip ?_)
    | (refine awp_ret ?_; refine ret_go ?_)
    | (refine arun_no ?_ ?_; (focus (simp [c1, c2, hh, hsl, hff]; done)); refine arun_slots (by first | (dsimp only [sput, sset]; done) | rfl) ?_)
    | ((first | refine arunD_nF rfl ?_ ?_ | refine arunD_nT rfl ?_ ?_); (focus (simp [c1, c2, hh, hsl, hff]; done)); refine arunD_slots' (by first | (dsimp only [sput, sset]; done) | rfl) (by first | (dsimp only [List.tail]; done) | rfl) ?_)
    | (refine fall_go ?_)
    | (simp only [athen_normal, athen_exit, athen_ret, ablock_self, ablock_ne, ablock_normal, ablock_ret, Nat.reduceBEq])
    | (clear hK K; refine hK _ _ ?_; clear hK K)
    | (clear hK K; clear hK K; refine hK _ _ ?_; clear hK K)
    | (clear hK K; clear hK K; clear hK K; refine hK _ _ ?_; clear hK K)
    | (clear hK K; clear hK K; clear hK K; clear hK K; refine hK _ _ ?_; clear hK K)
    | (clear hK K; clear hK K; clear hK K; clear hK K; clear hK K; refine hK _ _ ?_; clear hK K))
    simp
    exact .pure .bool
  · exact .bool
set_option maxRecDepth 100000 in
theorem merkleRaw_fits : ∀ xs, FitsAll Try.prog 8 Try.f8.params.toList xs → PCall Try.prog 8 xs (.bool true) := by
  intro xs h
  rw [show Try.f8.params.toList = [42, 9, 9, 4] by kernel_rfl] at h
  obtain ⟨x1, xs, rfl, h1, h⟩ := fitsAll_cons h
  obtain ⟨x2, xs, rfl, h2, h⟩ := fitsAll_cons h
  obtain ⟨x3, xs, rfl, h3, h⟩ := fitsAll_cons h
  obtain ⟨x4, xs, rfl, h4, h⟩ := fitsAll_cons h
  obtain rfl := fitsAll_nil h
  obtain ⟨n, id, root, q1, q2, rfl⟩ := fits_key h1
  obtain ⟨m, hm, rfl⟩ := fits_str (by kernel_rfl) h2
  obtain ⟨s, hs, rfl⟩ := fits_str (by kernel_rfl) h3
  obtain ⟨b, rfl⟩ := fits_bool (by kernel_rfl) h4
  exact merkleRaw_call n id root m s b q1 q2 hm hs
set_option maxRecDepth 100000 in
theorem merkleVerify_fits : ∀ xs, FitsAll Try.prog 8 Try.f7.params.toList xs → PCall Try.prog 7 xs (.bool true) := by
  intro xs h
  rw [show Try.f7.params.toList = [5, 5, 5, 9, 9, 22] by kernel_rfl] at h
  obtain ⟨x1, xs, rfl, h1, h⟩ := fitsAll_cons h
  obtain ⟨x2, xs, rfl, h2, h⟩ := fitsAll_cons h
  obtain ⟨x3, xs, rfl, h3, h⟩ := fitsAll_cons h
  obtain ⟨x4, xs, rfl, h4, h⟩ := fitsAll_cons h
  obtain ⟨x5, xs, rfl, h5, h⟩ := fitsAll_cons h
  obtain ⟨x6, xs, rfl, h6, h⟩ := fitsAll_cons h
  obtain rfl := fitsAll_nil h
  obtain ⟨k, rfl⟩ := fits_u8 (by kernel_rfl) h1
  obtain ⟨height, rfl⟩ := fits_u8 (by kernel_rfl) h2
  obtain ⟨leaf, rfl⟩ := fits_u8 (by kernel_rfl) h3
  obtain ⟨m, hm, rfl⟩ := fits_str (by kernel_rfl) h4
  obtain ⟨o, ho, rfl⟩ := fits_str (by kernel_rfl) h5
  obtain ⟨l, hl, hr, rfl⟩ := fits_ints (e := 3) (by kernel_rfl) (by kernel_rfl) h6
  exact merkleVerify_call k height leaf m o l hm ho hl hr
end Go.Proofs.Ythcdofbmmibgjaa
