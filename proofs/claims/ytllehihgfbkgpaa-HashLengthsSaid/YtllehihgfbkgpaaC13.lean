/-
  CONTRACTS: HashLengths.
  Conditions: none.
-/
import Derived.Test.YtllehihgfbkgpaaC11
namespace Go.Proofs.Ytllehihgfbkgpaa
open Go.VS
set_option linter.all false
attribute [local irreducible] arun arunD AWp aend shaS shaT

/-- Byte number i is c + i. -/
def runB (c : UInt8) (n i : Nat) : List UInt8 := (List.range i).map (fun j => c + UInt8.ofNat j) ++ List.replicate (n - i) 0
@[simp] theorem runB_length (c : UInt8) (n i : Nat) (h : i ≤ n) : (runB c n i).length = n := by simp [runB]; omega

theorem runB_succ (c : UInt8) (n i : Nat) (h : i < n) : runB c n (i + 1) = (runB c n i).set i (c + UInt8.ofNat i) := by
  rw [runB, runB, List.set_append_right _ _ (by simp), List.range_succ, List.map_append, show n - i = (n - (i + 1)) + 1 by omega, List.replicate_succ]
  simp
theorem addB (c : UInt8) (i : Nat) : V.int .u8 (IntKind.u8.wrap ((c.toNat : Int) + IntKind.u8.wrap (i : Int))) = byteV (c + UInt8.ofNat i) := by
  rw [wrap_u8', wrap_u8', byteV]
  have h : (UInt8.ofNat i).toNat = i % 256 := by simp
  simp only [V.int.injEq, true_and, UInt8.toNat_add, h]
  omega

theorem hashLengths_call (k : Int) (c : UInt8) (h0 : 0 ≤ k) (h1 : k ≤ 65535) : PCall Try.prog 6 [.int .u16 k, byteV c] (.bool true) := by
  refine pcall_body Try.func6 rfl Try.call6 ?_ ?_
  rotate_left 1
  refine awp_slots (s' := [(.int .u16 k : V), (byteV c : V), .junk, .junk, .junk, .junk, .junk, .junk, .junk, .junk, .junk, .junk, .junk, .junk, .junk, .junk, .junk, .junk, .junk, .junk, .junk, .junk, .junk, .junk, .junk, .junk, .junk, .junk, .junk, .junk, .junk, .junk, .junk, .junk, .junk]) rfl ?_
  obtain ⟨n, hn, hn2⟩ : ∃ n : Nat, k % 1024 = n ∧ n < 1024 := ⟨(k % 1024).toNat, by omega, by omega⟩
  repeat' (first
    | ((first | refine arun_go0 rfl fun K9 h9 => ?_ | refine arunD_goF rfl rfl fun K9 h9 => ?_ | refine arunD_goT rfl rfl fun K9 h9 => ?_); simp (disch := (first | (simp; done) | omega | (simp; omega))) [hn]; (try simp (disch := (first | omega | (simp; omega))) only [wrap_i64, wrap_u8, wrap_u32, wrap_u64, Int.tmod_eq_emod_of_nonneg, Int.tdiv_eq_ediv_of_nonneg]); (repeat (refine And.intro (by first | omega | (simp; done) | (simp; omega) | assumption | (intro e9; have e8 := congrArg List.length e9; simp at e8; done) | (intro e9; have e8 := congrArg List.length e9; (try simp only [List.length_map, List.length_append] at e8); rw [List.length_nil] at e8; omega)) ?_)); (first | refine h9 _ _ (arun_slots (by first | (dsimp only [sput, sset]; done) | rfl) ?_) | refine h9 _ _ (arunD_slots' (by first | (dsimp only [sput, sset]; done) | rfl) (by first | (dsimp only [List.tail]; done) | rfl) ?_)); clear h9 K9)
    | (refine arun_end ?_)
    | (refine arunD_end ?_)
    | (refine awp_seq fun K hK => ?_)
    | (refine awp_region ?_)
    | (refine hK _ _ ?_; clear hK K)
    | ((first | refine awp_region_draw' (m := 0) (by decide +kernel) [] (by kernel_rfl) (by decide +kernel) ?_ | refine awp_region_draw' (m := 1) (by decide +kernel) [] (by kernel_rfl) (by decide +kernel) ?_ | refine awp_region_draw' (m := 2) (by decide +kernel) [] (by kernel_rfl) (by decide +kernel) ?_ | refine awp_region_draw' (m := 3) (by decide +kernel) [] (by kernel_rfl) (by decide +kernel) ?_ | refine awp_region_draw' (m := 4) (by decide +kernel) [] (by kernel_rfl) (by decide +kernel) ?_ | refine awp_region_draw' (m := 5) (by decide +kernel) [] (by kernel_rfl) (by decide +kernel) ?_ | refine awp_region_draw' (m := 6) (by decide +kernel) [] (by kernel_rfl) (by decide +kernel) ?_ | refine awp_region_draw' (m := 7) (by decide +kernel) [] (by kernel_rfl) (by decide +kernel) ?_ | refine awp_region_draw' (m := 8) (by decide +kernel) [] (by kernel_rfl) (by decide +kernel) ?_ | refine awp_region_draw' (m := 9) (by decide +kernel) [] (by kernel_rfl) (by decide +kernel) ?_ | refine awp_region_draw' (m := 10) (by decide +kernel) [] (by kernel_rfl) (by decide +kernel) ?_ | refine awp_region_draw' (m := 11) (by decide +kernel) [] (by kernel_rfl) (by decide +kernel) ?_); dsimp only [List.replicate, List.append_nil, List.cons_append, List.nil_append, List.length_cons, List.length_nil])
    | (refine awp_block ?_)
    | (refine awp_cond rfl (fun hcnd => ?_) (fun hcnd => ?_) <;> (try simp at hcnd) <;> (try contradiction) <;> (try (exfalso; omega)))
    | (refine awp_skip ?_)
    | (refine awp_exit ?_; simp only [athen_normal, athen_exit, athen_ret, ablock_self, ablock_ne, ablock_normal, ablock_ret, Nat.reduceBEq])
    | (refine awp_ret ?_; refine ret_go ?_)
    | (refine arun_no ?_ ?_; (focus (simp; done)); refine arun_slots (by first | (dsimp only [sput, sset]; done) | rfl) ?_)
    | ((first | refine arunD_nF rfl ?_ ?_ | refine arunD_nT rfl ?_ ?_); (focus (simp; done)); refine arunD_slots' (by first | (dsimp only [sput, sset]; done) | rfl) (by first | (dsimp only [List.tail]; done) | rfl) ?_)
    | ((first | refine arun_go ?_ ?_ | refine arunD_gF rfl ?_ ?_ | refine arunD_gT rfl ?_ ?_); (focus (simp; done)); intro K9 h9; simp (disch := (first | (simp; done) | omega | (simp; omega))) [hn]; (try simp (disch := (first | omega | (simp; omega))) only [wrap_i64, wrap_u8, wrap_u32, wrap_u64, Int.tmod_eq_emod_of_nonneg, Int.tdiv_eq_ediv_of_nonneg]); (repeat (refine And.intro (by first | omega | (simp; done) | (simp; omega) | assumption | (intro e9; have e8 := congrArg List.length e9; simp at e8; done) | (intro e9; have e8 := congrArg List.length e9; (try simp only [List.length_map, List.length_append] at e8); rw [List.length_nil] at e8; omega)) ?_)); (first | refine h9 _ _ (arun_slots (by first | (dsimp only [sput, sset]; done) | rfl) ?_) | refine h9 _ _ (arunD_slots' (by first | (dsimp only [sput, sset]; done) | rfl) (by first | (dsimp only [List.tail]; done) | rfl) ?_)); clear h9 K9)
    | (refine fall_go ?_)
    | (simp only [athen_normal, athen_exit, athen_ret, ablock_self, ablock_ne, ablock_normal, ablock_ret, Nat.reduceBEq])
    | (clear hK K; refine hK _ _ ?_; clear hK K)
    | (clear hK K; clear hK K; refine hK _ _ ?_; clear hK K)
    | (clear hK K; clear hK K; clear hK K; refine hK _ _ ?_; clear hK K)
    | (clear hK K; clear hK K; clear hK K; clear hK K; refine hK _ _ ?_; clear hK K)
    | (clear hK K; clear hK K; clear hK K; clear hK K; clear hK K; refine hK _ _ ?_; clear hK K))
  · refine awp_countU (fun i => [some V.junk, none, none, none, some V.junk, none, some V.junk, some V.junk, some V.junk, some V.junk, some V.junk, none, some (V.int .i64 i), some V.junk, some V.junk, some V.junk, some V.junk, some V.junk, some V.junk, some V.junk, some V.junk, some V.junk, some V.junk, some V.junk, some V.junk, some V.junk, some V.junk, some V.junk, some V.junk, some V.junk, some V.junk, some V.junk, some V.junk, some V.junk, some V.junk]) (fun i => [.live ((runB c n i).map byteV)]) n ?_ fun i hi KL hL => ?_
    · dsimp only [ups_some, ups_none, ups_nil, ups_nil']
      exact Le.mk [some 0] (by simp) (rowsRen_of (by simp) (by simp [rowsOver, runB, byteV])) (by simp)
    dsimp only [ups_some, ups_none, ups_nil, ups_nil']
    have hrl := runB_length c n i hi
    rcases Nat.lt_or_ge i n with hi | hi
    · have hs : (runB c n (i + 1)).map byteV = ((runB c n i).map byteV).set i (.int .u8 (IntKind.u8.wrap ((c.toNat : Int) + IntKind.u8.wrap (i : Int)))) := by
        rw [addB, runB_succ c n i hi, List.map_set]
      simp only [byteV]
      repeat' (first
    | ((first | refine arun_go0 rfl fun K9 h9 => ?_ | refine arunD_goF rfl rfl fun K9 h9 => ?_ | refine arunD_goT rfl rfl fun K9 h9 => ?_); simp (disch := (first | (simp; done) | omega | (simp; omega))) [hrl]; (try simp (disch := (first | omega | (simp; omega))) only [wrap_i64, wrap_u8, wrap_u32, wrap_u64, Int.tmod_eq_emod_of_nonneg, Int.tdiv_eq_ediv_of_nonneg]); (repeat (refine And.intro (by first | omega | (simp; done) | (simp; omega) | assumption | (intro e9; have e8 := congrArg List.length e9; simp at e8; done) | (intro e9; have e8 := congrArg List.length e9; (try simp only [List.length_map, List.length_append] at e8); rw [List.length_nil] at e8; omega)) ?_)); (first | refine h9 _ _ (arun_slots (by first | (dsimp only [sput, sset]; done) | rfl) ?_) | refine h9 _ _ (arunD_slots' (by first | (dsimp only [sput, sset]; done) | rfl) (by first | (dsimp only [List.tail]; done) | rfl) ?_)); clear h9 K9)
    | (refine arun_end ?_)
    | (refine arunD_end ?_)
    | (refine awp_seq fun K hK => ?_)
    | (refine awp_region ?_)
    | (refine hK _ _ ?_; clear hK K)
    | ((first | refine awp_region_draw' (m := 0) (by decide +kernel) [] (by kernel_rfl) (by decide +kernel) ?_ | refine awp_region_draw' (m := 1) (by decide +kernel) [] (by kernel_rfl) (by decide +kernel) ?_ | refine awp_region_draw' (m := 2) (by decide +kernel) [] (by kernel_rfl) (by decide +kernel) ?_ | refine awp_region_draw' (m := 3) (by decide +kernel) [] (by kernel_rfl) (by decide +kernel) ?_ | refine awp_region_draw' (m := 4) (by decide +kernel) [] (by kernel_rfl) (by decide +kernel) ?_ | refine awp_region_draw' (m := 5) (by decide +kernel) [] (by kernel_rfl) (by decide +kernel) ?_ | refine awp_region_draw' (m := 6) (by decide +kernel) [] (by kernel_rfl) (by decide +kernel) ?_ | refine awp_region_draw' (m := 7) (by decide +kernel) [] (by kernel_rfl) (by decide +kernel) ?_ | refine awp_region_draw' (m := 8) (by decide +kernel) [] (by kernel_rfl) (by decide +kernel) ?_ | refine awp_region_draw' (m := 9) (by decide +kernel) [] (by kernel_rfl) (by decide +kernel) ?_ | refine awp_region_draw' (m := 10) (by decide +kernel) [] (by kernel_rfl) (by decide +kernel) ?_ | refine awp_region_draw' (m := 11) (by decide +kernel) [] (by kernel_rfl) (by decide +kernel) ?_); dsimp only [List.replicate, List.append_nil, List.cons_append, List.nil_append, List.length_cons, List.length_nil])
    | (refine awp_block ?_)
    | (refine awp_cond rfl (fun hcnd => ?_) (fun hcnd => ?_) <;> (try simp at hcnd) <;> (try contradiction) <;> (try (exfalso; omega)))
    | (refine awp_skip ?_)
    | (refine awp_exit ?_; simp only [athen_normal, athen_exit, athen_ret, ablock_self, ablock_ne, ablock_normal, ablock_ret, Nat.reduceBEq])
    | (refine awp_ret ?_; refine ret_go ?_)
    | (refine arun_no ?_ ?_; (focus (simp; done)); refine arun_slots (by first | (dsimp only [sput, sset]; done) | rfl) ?_)
    | ((first | refine arunD_nF rfl ?_ ?_ | refine arunD_nT rfl ?_ ?_); (focus (simp; done)); refine arunD_slots' (by first | (dsimp only [sput, sset]; done) | rfl) (by first | (dsimp only [List.tail]; done) | rfl) ?_)
    | ((first | refine arun_go ?_ ?_ | refine arunD_gF rfl ?_ ?_ | refine arunD_gT rfl ?_ ?_); (focus (simp; done)); intro K9 h9; simp (disch := (first | (simp; done) | omega | (simp; omega))) [hrl]; (try simp (disch := (first | omega | (simp; omega))) only [wrap_i64, wrap_u8, wrap_u32, wrap_u64, Int.tmod_eq_emod_of_nonneg, Int.tdiv_eq_ediv_of_nonneg]); (repeat (refine And.intro (by first | omega | (simp; done) | (simp; omega) | assumption | (intro e9; have e8 := congrArg List.length e9; simp at e8; done) | (intro e9; have e8 := congrArg List.length e9; (try simp only [List.length_map, List.length_append] at e8); rw [List.length_nil] at e8; omega)) ?_)); (first | refine h9 _ _ (arun_slots (by first | (dsimp only [sput, sset]; done) | rfl) ?_) | refine h9 _ _ (arunD_slots' (by first | (dsimp only [sput, sset]; done) | rfl) (by first | (dsimp only [List.tail]; done) | rfl) ?_)); clear h9 K9)
    | (refine fall_go ?_)
    | (simp only [athen_normal, athen_exit, athen_ret, ablock_self, ablock_ne, ablock_normal, ablock_ret, Nat.reduceBEq])
    | (clear hK K; refine hK _ _ ?_; clear hK K)
    | (clear hK K; clear hK K; refine hK _ _ ?_; clear hK K)
    | (clear hK K; clear hK K; clear hK K; refine hK _ _ ?_; clear hK K)
    | (clear hK K; clear hK K; clear hK K; clear hK K; refine hK _ _ ?_; clear hK K)
    | (clear hK K; clear hK K; clear hK K; clear hK K; clear hK K; refine hK _ _ ?_; clear hK K))
      refine hL _ _ hi ?_
      rw [← hs]
      exact Le.mk [some 0] (by dsimp only [ups_some, ups_none, ups_nil, ups_nil']; simp [byteV]) (rowsRen_of (by simp) (by simp [rowsOver])) (by simp)
    obtain rfl : i = n := by omega
    generalize runB c i i = B at *
    have hB := bytes_full (l := B) (n := i) (by omega)
    have hB2 : List.take i B = B := List.take_of_length_le (by omega)
    repeat' (first
    | ((first | refine arun_go0 rfl fun K9 h9 => ?_ | refine arunD_goF rfl rfl fun K9 h9 => ?_ | refine arunD_goT rfl rfl fun K9 h9 => ?_); simp (disch := (first | (simp; done) | omega | (simp; omega))) [hB, hB2]; (try simp (disch := (first | omega | (simp; omega))) only [wrap_i64, wrap_u8, wrap_u32, wrap_u64, Int.tmod_eq_emod_of_nonneg, Int.tdiv_eq_ediv_of_nonneg]); (first | refine acall_pure (awake01_call) (by simp) ?_ | refine acall_view (hsum_call [B] (by simp) (by simp; omega)) ⟨view_row rfl (by simp) (by simp), trivial⟩ .str ?_ | refine acall_view (rsum_call [B] (by simp) (by simp; omega)) ⟨view_row rfl (by simp) (by simp), trivial⟩ .str ?_ | skip); (repeat (refine And.intro (by first | omega | (simp; done) | (simp; omega) | assumption | (intro e9; have e8 := congrArg List.length e9; simp at e8; done) | (intro e9; have e8 := congrArg List.length e9; (try simp only [List.length_map, List.length_append] at e8); rw [List.length_nil] at e8; omega)) ?_)); (first | refine h9 _ _ (arun_slots (by first | (dsimp only [sput, sset]; done) | rfl) ?_) | refine h9 _ _ (arunD_slots' (by first | (dsimp only [sput, sset]; done) | rfl) (by first | (dsimp only [List.tail]; done) | rfl) ?_)); clear h9 K9)
    | (refine arun_end ?_)
    | (refine arunD_end ?_)
    | (refine awp_seq fun K hK => ?_)
    | (refine awp_region ?_)
    | (refine hK _ _ ?_; clear hK K)
    | ((first | refine awp_region_draw' (m := 0) (by decide +kernel) [] (by kernel_rfl) (by decide +kernel) ?_ | refine awp_region_draw' (m := 1) (by decide +kernel) [] (by kernel_rfl) (by decide +kernel) ?_ | refine awp_region_draw' (m := 2) (by decide +kernel) [] (by kernel_rfl) (by decide +kernel) ?_ | refine awp_region_draw' (m := 3) (by decide +kernel) [] (by kernel_rfl) (by decide +kernel) ?_ | refine awp_region_draw' (m := 4) (by decide +kernel) [] (by kernel_rfl) (by decide +kernel) ?_ | refine awp_region_draw' (m := 5) (by decide +kernel) [] (by kernel_rfl) (by decide +kernel) ?_ | refine awp_region_draw' (m := 6) (by decide +kernel) [] (by kernel_rfl) (by decide +kernel) ?_ | refine awp_region_draw' (m := 7) (by decide +kernel) [] (by kernel_rfl) (by decide +kernel) ?_ | refine awp_region_draw' (m := 8) (by decide +kernel) [] (by kernel_rfl) (by decide +kernel) ?_ | refine awp_region_draw' (m := 9) (by decide +kernel) [] (by kernel_rfl) (by decide +kernel) ?_ | refine awp_region_draw' (m := 10) (by decide +kernel) [] (by kernel_rfl) (by decide +kernel) ?_ | refine awp_region_draw' (m := 11) (by decide +kernel) [] (by kernel_rfl) (by decide +kernel) ?_); dsimp only [List.replicate, List.append_nil, List.cons_append, List.nil_append, List.length_cons, List.length_nil])
    | (refine awp_block ?_)
    | (refine awp_cond rfl (fun hcnd => ?_) (fun hcnd => ?_) <;> (try simp at hcnd) <;> (try contradiction) <;> (try (exfalso; omega)))
    | (refine awp_skip ?_)
    | (refine awp_exit ?_; simp only [athen_normal, athen_exit, athen_ret, ablock_self, ablock_ne, ablock_normal, ablock_ret, Nat.reduceBEq])
    | (refine awp_ret ?_; refine ret_go ?_)
    | (refine arun_no ?_ ?_; (focus (simp; done)); refine arun_slots (by first | (dsimp only [sput, sset]; done) | rfl) ?_)
    | ((first | refine arunD_nF rfl ?_ ?_ | refine arunD_nT rfl ?_ ?_); (focus (simp; done)); refine arunD_slots' (by first | (dsimp only [sput, sset]; done) | rfl) (by first | (dsimp only [List.tail]; done) | rfl) ?_)
    | ((first | refine arun_go ?_ ?_ | refine arunD_gF rfl ?_ ?_ | refine arunD_gT rfl ?_ ?_); (focus (simp; done)); intro K9 h9; simp (disch := (first | (simp; done) | omega | (simp; omega))) [hB, hB2]; (try simp (disch := (first | omega | (simp; omega))) only [wrap_i64, wrap_u8, wrap_u32, wrap_u64, Int.tmod_eq_emod_of_nonneg, Int.tdiv_eq_ediv_of_nonneg]); (first | refine acall_pure (awake01_call) (by simp) ?_ | refine acall_view (hsum_call [B] (by simp) (by simp; omega)) ⟨view_row rfl (by simp) (by simp), trivial⟩ .str ?_ | refine acall_view (rsum_call [B] (by simp) (by simp; omega)) ⟨view_row rfl (by simp) (by simp), trivial⟩ .str ?_ | skip); (repeat (refine And.intro (by first | omega | (simp; done) | (simp; omega) | assumption | (intro e9; have e8 := congrArg List.length e9; simp at e8; done) | (intro e9; have e8 := congrArg List.length e9; (try simp only [List.length_map, List.length_append] at e8); rw [List.length_nil] at e8; omega)) ?_)); (first | refine h9 _ _ (arun_slots (by first | (dsimp only [sput, sset]; done) | rfl) ?_) | refine h9 _ _ (arunD_slots' (by first | (dsimp only [sput, sset]; done) | rfl) (by first | (dsimp only [List.tail]; done) | rfl) ?_)); clear h9 K9)
    | (refine fall_go ?_)
    | (simp only [athen_normal, athen_exit, athen_ret, ablock_self, ablock_ne, ablock_normal, ablock_ret, Nat.reduceBEq])
    | (clear hK K; refine hK _ _ ?_; clear hK K)
    | (clear hK K; clear hK K; refine hK _ _ ?_; clear hK K)
    | (clear hK K; clear hK K; clear hK K; refine hK _ _ ?_; clear hK K)
    | (clear hK K; clear hK K; clear hK K; clear hK K; refine hK _ _ ?_; clear hK K)
    | (clear hK K; clear hK K; clear hK K; clear hK K; clear hK K; refine hK _ _ ?_; clear hK K))
    simp
    exact .pure .bool
  · exact .bool

theorem hashLengths_fits : ∀ xs, FitsAll Try.prog 8 Try.f6.params.toList xs → PCall Try.prog 6 xs (.bool true) := by
  intro xs h
  rw [show Try.f6.params.toList = [36, 5] by kernel_rfl] at h
  obtain ⟨x1, xs, rfl, h1, h⟩ := fitsAll_cons h
  obtain ⟨x2, xs, rfl, h2, h⟩ := fitsAll_cons h
  obtain rfl := fitsAll_nil h
  obtain ⟨k, ⟨h3, h4⟩, rfl⟩ := fits_u16 (by kernel_rfl) h1
  obtain ⟨c, rfl⟩ := fits_u8 (by kernel_rfl) h2
  exact hashLengths_call k c h3 h4
end Go.Proofs.Ytllehihgfbkgpaa
