/-
  CONTRACTS: Sum and Short.
  Conditions: none.
-/
import Derived.Test.YtllehihgfbkgpaaC8
namespace Go.Proofs.Ytllehihgfbkgpaa
open Go.VS
set_option linter.all false
attribute [local irreducible] arun arunD AWp aend

theorem flat_succ (l : List (List UInt8)) (i : Nat) (h : i < l.length) : (l.take (i + 1)).flatten = (l.take i).flatten ++ l[i] := by
  rw [List.take_succ_eq_append_getElem h, List.flatten_append]; simp
theorem flat_le (l : List (List UInt8)) (i : Nat) (h : i < l.length) : (l.take i).flatten.length + (l[i]).length ≤ l.flatten.length := by
  have h1 : l.flatten.length = (l.take (i + 1)).flatten.length + (l.drop (i + 1)).flatten.length := by
    rw [← List.length_append, ← List.flatten_append, List.take_append_drop]
  rw [h1, flat_succ l i h, List.length_append]; omega
theorem flat_le' (l : List (List UInt8)) (i : Nat) : (l.take i).flatten.length ≤ l.flatten.length := by
  have h1 : l.flatten.length = (l.take i).flatten.length + (l.drop i).flatten.length := by
    rw [← List.length_append, ← List.flatten_append, List.take_append_drop]
  omega

@[simp] theorem outB_length (h : List Int) : (outB h).length = 4 * h.length := by rw [← ob_all h h.length (Nat.le_refl _), ob_length _ _ (Nat.le_refl _)]
@[simp] theorem shaS_length (l : List UInt8) : (shaS l).length = 32 := by simp [shaS]
theorem stOf_ne (l : List UInt8) : stOf l ≠ [] := by simp [stOf, stR]

theorem hsum_call (l : List (List UInt8)) (hl : l.length ≤ 1099511627776) (ht : l.flatten.length ≤ 1099511627776) : PCall Try.prog 21 [.sl l.length (l.map V.str)] (.str (shaS l.flatten)) := by
  refine pcall_body Try.func21 rfl Try.call21 ?_ ?_
  rotate_left 1
  refine awp_slots (s' := [(.sl l.length (l.map V.str) : V), .junk, .junk, .junk, .junk, .junk, .junk, .junk, .junk, .junk, .junk, .junk, .junk, .junk, .junk, .junk, .junk, .junk, .junk]) rfl ?_
  repeat' (first
    | ((first | refine arun_go0 rfl fun K9 h9 => ?_ | refine arunD_goF rfl rfl fun K9 h9 => ?_ | refine arunD_goT rfl rfl fun K9 h9 => ?_); simp (disch := (first | (simp; done) | omega | (simp; omega))) ; (try simp (disch := (first | omega | (simp; omega))) only [wrap_i64, wrap_u8, wrap_u32, wrap_u64, Int.tmod_eq_emod_of_nonneg, Int.tdiv_eq_ediv_of_nonneg]); (first | refine acall_new start_call (by simp) (by simp) ?_ | skip); (repeat (refine And.intro (by first | omega | (simp; done) | (simp; omega) | assumption | (intro e9; have e8 := congrArg List.length e9; simp at e8; done) | (intro e9; have e8 := congrArg List.length e9; simp at e8; omega)) ?_)); (first | refine h9 _ _ (arun_slots (by first | (dsimp only [sput, sset]; done) | rfl) ?_) | refine h9 _ _ (arunD_slots' (by first | (dsimp only [sput, sset]; done) | rfl) (by first | (dsimp only [List.tail]; done) | rfl) ?_)); clear h9 K9)
    | (refine arun_end ?_)
    | (refine arunD_end ?_)
    | (refine awp_seq fun K hK => ?_)
    | (refine awp_region ?_)
    | (refine hK _ _ ?_; clear hK K)
    | ((first | refine awp_region_draw' (m := 0) (by decide +kernel) [] (by kernel_rfl) (by decide +kernel) ?_ | refine awp_region_draw' (m := 1) (by decide +kernel) [] (by kernel_rfl) (by decide +kernel) ?_ | refine awp_region_draw' (m := 2) (by decide +kernel) [] (by kernel_rfl) (by decide +kernel) ?_ | refine awp_region_draw' (m := 3) (by decide +kernel) [] (by kernel_rfl) (by decide +kernel) ?_ | refine awp_region_draw' (m := 4) (by decide +kernel) [] (by kernel_rfl) (by decide +kernel) ?_ | refine awp_region_draw' (m := 5) (by decide +kernel) [] (by kernel_rfl) (by decide +kernel) ?_ | refine awp_region_draw' (m := 6) (by decide +kernel) [] (by kernel_rfl) (by decide +kernel) ?_ | refine awp_region_draw' (m := 7) (by decide +kernel) [] (by kernel_rfl) (by decide +kernel) ?_ | refine awp_region_draw' (m := 8) (by decide +kernel) [] (by kernel_rfl) (by decide +kernel) ?_ | refine awp_region_draw' (m := 9) (by decide +kernel) [] (by kernel_rfl) (by decide +kernel) ?_ | refine awp_region_draw' (m := 10) (by decide +kernel) [] (by kernel_rfl) (by decide +kernel) ?_ | refine awp_region_draw' (m := 11) (by decide +kernel) [] (by kernel_rfl) (by decide +kernel) ?_); dsimp only [List.replicate, List.append_nil, List.cons_append, List.nil_append, List.length_cons, List.length_nil])
    | (refine awp_block ?_)
    | (refine awp_cond rfl (fun hcnd => ?_) (fun hcnd => ?_) <;> (try simp at hcnd) <;> (try contradiction) <;> (try (exfalso; omega)))
    | (refine awp_skip ?_)
    | (refine awp_exit ?_; simp only [athen_normal, athen_exit, athen_ret, ablock_self, ablock_ne, ablock_normal, ablock_ret, Nat.reduceBEq])
    | (refine awp_ret ?_; refine ret_go ?_)
    | (refine arun_no ?_ ?_; (focus (simp; done)); refine arun_slots (by first | (dsimp only [sput, sset]; done) | rfl) ?_)
    | ((first | refine arunD_nF rfl ?_ ?_ | refine arunD_nT rfl ?_ ?_); (focus (simp; done)); refine arunD_slots' (by first | (dsimp only [sput, sset]; done) | rfl) (by first | (dsimp only [List.tail]; done) | rfl) ?_)
    | ((first | refine arun_go ?_ ?_ | refine arunD_gF rfl ?_ ?_ | refine arunD_gT rfl ?_ ?_); (focus (simp; done)); intro K9 h9; simp (disch := (first | (simp; done) | omega | (simp; omega))) ; (try simp (disch := (first | omega | (simp; omega))) only [wrap_i64, wrap_u8, wrap_u32, wrap_u64, Int.tmod_eq_emod_of_nonneg, Int.tdiv_eq_ediv_of_nonneg]); (first | refine acall_new start_call (by simp) (by simp) ?_ | skip); (repeat (refine And.intro (by first | omega | (simp; done) | (simp; omega) | assumption | (intro e9; have e8 := congrArg List.length e9; simp at e8; done) | (intro e9; have e8 := congrArg List.length e9; simp at e8; omega)) ?_)); (first | refine h9 _ _ (arun_slots (by first | (dsimp only [sput, sset]; done) | rfl) ?_) | refine h9 _ _ (arunD_slots' (by first | (dsimp only [sput, sset]; done) | rfl) (by first | (dsimp only [List.tail]; done) | rfl) ?_)); clear h9 K9)
    | (refine fall_go ?_)
    | (simp only [athen_normal, athen_exit, athen_ret, ablock_self, ablock_ne, ablock_normal, ablock_ret, Nat.reduceBEq])
    | (clear hK K; refine hK _ _ ?_; clear hK K)
    | (clear hK K; clear hK K; refine hK _ _ ?_; clear hK K)
    | (clear hK K; clear hK K; clear hK K; refine hK _ _ ?_; clear hK K)
    | (clear hK K; clear hK K; clear hK K; clear hK K; refine hK _ _ ?_; clear hK K)
    | (clear hK K; clear hK K; clear hK K; clear hK K; clear hK K; refine hK _ _ ?_; clear hK K))
  · refine awp_countU (fun i => [some V.junk, none, some V.junk, none, none, some V.junk, some V.junk, none, none, some (V.int .i64 i), some V.junk, some V.junk, some V.junk, some V.junk, some V.junk, some V.junk, some V.junk, some V.junk, some V.junk]) (fun i => [.live (stOf (l.take i).flatten)]) l.length ?_ fun i hi KL hL => ?_
    · dsimp only [ups_some, ups_none, ups_nil, ups_nil']
      exact Le.mk [some 0] (by simp) (rowsRen_of (by simp) (by simp [rowsOver])) (by simp)
    dsimp only [ups_some, ups_none, ups_nil, ups_nil']
    rcases Nat.lt_or_ge i l.length with hi | hi
    · have hle := flat_le l i hi
      repeat' (first
    | ((first | refine arun_go0 rfl fun K9 h9 => ?_ | refine arunD_goF rfl rfl fun K9 h9 => ?_ | refine arunD_goT rfl rfl fun K9 h9 => ?_); simp (disch := (first | (simp; done) | omega | (simp; omega))) ; (try simp (disch := (first | omega | (simp; omega))) only [wrap_i64, wrap_u8, wrap_u32, wrap_u64, Int.tmod_eq_emod_of_nonneg, Int.tdiv_eq_ediv_of_nonneg]); (first | refine acall_mut 0 (write_call (l.take i).flatten l[i] (by omega)) rfl (by simp) (by simp) (.tup (by simp)) (by simp) ?_ | skip); (repeat (refine And.intro (by first | omega | (simp; done) | (simp; omega) | assumption | (intro e9; have e8 := congrArg List.length e9; simp at e8; done) | (intro e9; have e8 := congrArg List.length e9; simp at e8; omega)) ?_)); (first | refine h9 _ _ (arun_slots (by first | (dsimp only [sput, sset]; done) | rfl) ?_) | refine h9 _ _ (arunD_slots' (by first | (dsimp only [sput, sset]; done) | rfl) (by first | (dsimp only [List.tail]; done) | rfl) ?_)); clear h9 K9)
    | (refine arun_end ?_)
    | (refine arunD_end ?_)
    | (refine awp_seq fun K hK => ?_)
    | (refine awp_region ?_)
    | (refine hK _ _ ?_; clear hK K)
    | ((first | refine awp_region_draw' (m := 0) (by decide +kernel) [] (by kernel_rfl) (by decide +kernel) ?_ | refine awp_region_draw' (m := 1) (by decide +kernel) [] (by kernel_rfl) (by decide +kernel) ?_ | refine awp_region_draw' (m := 2) (by decide +kernel) [] (by kernel_rfl) (by decide +kernel) ?_ | refine awp_region_draw' (m := 3) (by decide +kernel) [] (by kernel_rfl) (by decide +kernel) ?_ | refine awp_region_draw' (m := 4) (by decide +kernel) [] (by kernel_rfl) (by decide +kernel) ?_ | refine awp_region_draw' (m := 5) (by decide +kernel) [] (by kernel_rfl) (by decide +kernel) ?_ | refine awp_region_draw' (m := 6) (by decide +kernel) [] (by kernel_rfl) (by decide +kernel) ?_ | refine awp_region_draw' (m := 7) (by decide +kernel) [] (by kernel_rfl) (by decide +kernel) ?_ | refine awp_region_draw' (m := 8) (by decide +kernel) [] (by kernel_rfl) (by decide +kernel) ?_ | refine awp_region_draw' (m := 9) (by decide +kernel) [] (by kernel_rfl) (by decide +kernel) ?_ | refine awp_region_draw' (m := 10) (by decide +kernel) [] (by kernel_rfl) (by decide +kernel) ?_ | refine awp_region_draw' (m := 11) (by decide +kernel) [] (by kernel_rfl) (by decide +kernel) ?_); dsimp only [List.replicate, List.append_nil, List.cons_append, List.nil_append, List.length_cons, List.length_nil])
    | (refine awp_block ?_)
    | (refine awp_cond rfl (fun hcnd => ?_) (fun hcnd => ?_) <;> (try simp at hcnd) <;> (try contradiction) <;> (try (exfalso; omega)))
    | (refine awp_skip ?_)
    | (refine awp_exit ?_; simp only [athen_normal, athen_exit, athen_ret, ablock_self, ablock_ne, ablock_normal, ablock_ret, Nat.reduceBEq])
    | (refine awp_ret ?_; refine ret_go ?_)
    | (refine arun_no ?_ ?_; (focus (simp; done)); refine arun_slots (by first | (dsimp only [sput, sset]; done) | rfl) ?_)
    | ((first | refine arunD_nF rfl ?_ ?_ | refine arunD_nT rfl ?_ ?_); (focus (simp; done)); refine arunD_slots' (by first | (dsimp only [sput, sset]; done) | rfl) (by first | (dsimp only [List.tail]; done) | rfl) ?_)
    | ((first | refine arun_go ?_ ?_ | refine arunD_gF rfl ?_ ?_ | refine arunD_gT rfl ?_ ?_); (focus (simp; done)); intro K9 h9; simp (disch := (first | (simp; done) | omega | (simp; omega))) ; (try simp (disch := (first | omega | (simp; omega))) only [wrap_i64, wrap_u8, wrap_u32, wrap_u64, Int.tmod_eq_emod_of_nonneg, Int.tdiv_eq_ediv_of_nonneg]); (first | refine acall_mut 0 (write_call (l.take i).flatten l[i] (by omega)) rfl (by simp) (by simp) (.tup (by simp)) (by simp) ?_ | skip); (repeat (refine And.intro (by first | omega | (simp; done) | (simp; omega) | assumption | (intro e9; have e8 := congrArg List.length e9; simp at e8; done) | (intro e9; have e8 := congrArg List.length e9; simp at e8; omega)) ?_)); (first | refine h9 _ _ (arun_slots (by first | (dsimp only [sput, sset]; done) | rfl) ?_) | refine h9 _ _ (arunD_slots' (by first | (dsimp only [sput, sset]; done) | rfl) (by first | (dsimp only [List.tail]; done) | rfl) ?_)); clear h9 K9)
    | (refine fall_go ?_)
    | (simp only [athen_normal, athen_exit, athen_ret, ablock_self, ablock_ne, ablock_normal, ablock_ret, Nat.reduceBEq])
    | (clear hK K; refine hK _ _ ?_; clear hK K)
    | (clear hK K; clear hK K; refine hK _ _ ?_; clear hK K)
    | (clear hK K; clear hK K; clear hK K; refine hK _ _ ?_; clear hK K)
    | (clear hK K; clear hK K; clear hK K; clear hK K; refine hK _ _ ?_; clear hK K)
    | (clear hK K; clear hK K; clear hK K; clear hK K; clear hK K; refine hK _ _ ?_; clear hK K))
      refine hL _ _ hi ?_
      exact Le.mk [some 0] (by dsimp only [ups_some, ups_none, ups_nil, ups_nil']; simp) (rowsRen_of (by simp) (by simp [rowsOver, flat_succ l i hi])) (by simp)
    obtain rfl : i = l.length := by omega
    rw [List.take_length]
    repeat' (first
    | ((first | refine arun_go0 rfl fun K9 h9 => ?_ | refine arunD_goF rfl rfl fun K9 h9 => ?_ | refine arunD_goT rfl rfl fun K9 h9 => ?_); simp (disch := (first | (simp; done) | omega | (simp; omega))) ; (try simp (disch := (first | omega | (simp; omega))) only [wrap_i64, wrap_u8, wrap_u32, wrap_u64, Int.tmod_eq_emod_of_nonneg, Int.tdiv_eq_ediv_of_nonneg]); (first | refine acall_view (sum_call l.flatten ht _ (.inl rfl)) ⟨view_ref rfl (stOf_ne _) (stOf_pures _), trivial⟩ .str ?_ | skip); (repeat (refine And.intro (by first | omega | (simp; done) | (simp; omega) | assumption | (intro e9; have e8 := congrArg List.length e9; simp at e8; done) | (intro e9; have e8 := congrArg List.length e9; simp at e8; omega)) ?_)); (first | refine h9 _ _ (arun_slots (by first | (dsimp only [sput, sset]; done) | rfl) ?_) | refine h9 _ _ (arunD_slots' (by first | (dsimp only [sput, sset]; done) | rfl) (by first | (dsimp only [List.tail]; done) | rfl) ?_)); clear h9 K9)
    | (refine arun_end ?_)
    | (refine arunD_end ?_)
    | (refine awp_seq fun K hK => ?_)
    | (refine awp_region ?_)
    | (refine hK _ _ ?_; clear hK K)
    | ((first | refine awp_region_draw' (m := 0) (by decide +kernel) [] (by kernel_rfl) (by decide +kernel) ?_ | refine awp_region_draw' (m := 1) (by decide +kernel) [] (by kernel_rfl) (by decide +kernel) ?_ | refine awp_region_draw' (m := 2) (by decide +kernel) [] (by kernel_rfl) (by decide +kernel) ?_ | refine awp_region_draw' (m := 3) (by decide +kernel) [] (by kernel_rfl) (by decide +kernel) ?_ | refine awp_region_draw' (m := 4) (by decide +kernel) [] (by kernel_rfl) (by decide +kernel) ?_ | refine awp_region_draw' (m := 5) (by decide +kernel) [] (by kernel_rfl) (by decide +kernel) ?_ | refine awp_region_draw' (m := 6) (by decide +kernel) [] (by kernel_rfl) (by decide +kernel) ?_ | refine awp_region_draw' (m := 7) (by decide +kernel) [] (by kernel_rfl) (by decide +kernel) ?_ | refine awp_region_draw' (m := 8) (by decide +kernel) [] (by kernel_rfl) (by decide +kernel) ?_ | refine awp_region_draw' (m := 9) (by decide +kernel) [] (by kernel_rfl) (by decide +kernel) ?_ | refine awp_region_draw' (m := 10) (by decide +kernel) [] (by kernel_rfl) (by decide +kernel) ?_ | refine awp_region_draw' (m := 11) (by decide +kernel) [] (by kernel_rfl) (by decide +kernel) ?_); dsimp only [List.replicate, List.append_nil, List.cons_append, List.nil_append, List.length_cons, List.length_nil])
    | (refine awp_block ?_)
    | (refine awp_cond rfl (fun hcnd => ?_) (fun hcnd => ?_) <;> (try simp at hcnd) <;> (try contradiction) <;> (try (exfalso; omega)))
    | (refine awp_skip ?_)
    | (refine awp_exit ?_; simp only [athen_normal, athen_exit, athen_ret, ablock_self, ablock_ne, ablock_normal, ablock_ret, Nat.reduceBEq])
    | (refine awp_ret ?_; refine ret_go ?_)
    | (refine arun_no ?_ ?_; (focus (simp; done)); refine arun_slots (by first | (dsimp only [sput, sset]; done) | rfl) ?_)
    | ((first | refine arunD_nF rfl ?_ ?_ | refine arunD_nT rfl ?_ ?_); (focus (simp; done)); refine arunD_slots' (by first | (dsimp only [sput, sset]; done) | rfl) (by first | (dsimp only [List.tail]; done) | rfl) ?_)
    | ((first | refine arun_go ?_ ?_ | refine arunD_gF rfl ?_ ?_ | refine arunD_gT rfl ?_ ?_); (focus (simp; done)); intro K9 h9; simp (disch := (first | (simp; done) | omega | (simp; omega))) ; (try simp (disch := (first | omega | (simp; omega))) only [wrap_i64, wrap_u8, wrap_u32, wrap_u64, Int.tmod_eq_emod_of_nonneg, Int.tdiv_eq_ediv_of_nonneg]); (first | refine acall_view (sum_call l.flatten ht _ (.inl rfl)) ⟨view_ref rfl (stOf_ne _) (stOf_pures _), trivial⟩ .str ?_ | skip); (repeat (refine And.intro (by first | omega | (simp; done) | (simp; omega) | assumption | (intro e9; have e8 := congrArg List.length e9; simp at e8; done) | (intro e9; have e8 := congrArg List.length e9; simp at e8; omega)) ?_)); (first | refine h9 _ _ (arun_slots (by first | (dsimp only [sput, sset]; done) | rfl) ?_) | refine h9 _ _ (arunD_slots' (by first | (dsimp only [sput, sset]; done) | rfl) (by first | (dsimp only [List.tail]; done) | rfl) ?_)); clear h9 K9)
    | (refine fall_go ?_)
    | (simp only [athen_normal, athen_exit, athen_ret, ablock_self, ablock_ne, ablock_normal, ablock_ret, Nat.reduceBEq])
    | (clear hK K; refine hK _ _ ?_; clear hK K)
    | (clear hK K; clear hK K; refine hK _ _ ?_; clear hK K)
    | (clear hK K; clear hK K; clear hK K; refine hK _ _ ?_; clear hK K)
    | (clear hK K; clear hK K; clear hK K; clear hK K; refine hK _ _ ?_; clear hK K)
    | (clear hK K; clear hK K; clear hK K; clear hK K; clear hK K; refine hK _ _ ?_; clear hK K))
    simp
    exact .pure .str
  · exact .str

def shaT (l : List UInt8) : List UInt8 := (shaS l).take 16
theorem hshort_call (l : List (List UInt8)) (hl : l.length ≤ 1099511627776) (ht : l.flatten.length ≤ 1099511627776) : PCall Try.prog 23 [.sl l.length (l.map V.str)] (.str (shaT l.flatten)) := by
  refine pcall_body Try.func23 rfl Try.call23 ?_ ?_
  rotate_left 1
  refine awp_slots (s' := [(.sl l.length (l.map V.str) : V), .junk, .junk, .junk, .junk, .junk]) rfl ?_
  repeat' (first
    | ((first | refine arun_go0 rfl fun K9 h9 => ?_ | refine arunD_goF rfl rfl fun K9 h9 => ?_ | refine arunD_goT rfl rfl fun K9 h9 => ?_); simp (disch := (first | (simp; done) | omega | (simp; omega))) ; (try simp (disch := (first | omega | (simp; omega))) only [wrap_i64, wrap_u8, wrap_u32, wrap_u64, Int.tmod_eq_emod_of_nonneg, Int.tdiv_eq_ediv_of_nonneg]); (first | refine acall_pure (hsum_call l hl ht) (by simp) ?_ | skip); (repeat (refine And.intro (by first | omega | (simp; done) | (simp; omega) | assumption | (intro e9; have e8 := congrArg List.length e9; simp at e8; done) | (intro e9; have e8 := congrArg List.length e9; simp at e8; omega)) ?_)); (first | refine h9 _ _ (arun_slots (by first | (dsimp only [sput, sset]; done) | rfl) ?_) | refine h9 _ _ (arunD_slots' (by first | (dsimp only [sput, sset]; done) | rfl) (by first | (dsimp only [List.tail]; done) | rfl) ?_)); clear h9 K9)
    | (refine arun_end ?_)
    | (refine arunD_end ?_)
    | (refine awp_seq fun K hK => ?_)
    | (refine awp_region ?_)
    | (refine hK _ _ ?_; clear hK K)
    | ((first | refine awp_region_draw' (m := 0) (by decide +kernel) [] (by kernel_rfl) (by decide +kernel) ?_ | refine awp_region_draw' (m := 1) (by decide +kernel) [] (by kernel_rfl) (by decide +kernel) ?_ | refine awp_region_draw' (m := 2) (by decide +kernel) [] (by kernel_rfl) (by decide +kernel) ?_ | refine awp_region_draw' (m := 3) (by decide +kernel) [] (by kernel_rfl) (by decide +kernel) ?_ | refine awp_region_draw' (m := 4) (by decide +kernel) [] (by kernel_rfl) (by decide +kernel) ?_ | refine awp_region_draw' (m := 5) (by decide +kernel) [] (by kernel_rfl) (by decide +kernel) ?_ | refine awp_region_draw' (m := 6) (by decide +kernel) [] (by kernel_rfl) (by decide +kernel) ?_ | refine awp_region_draw' (m := 7) (by decide +kernel) [] (by kernel_rfl) (by decide +kernel) ?_ | refine awp_region_draw' (m := 8) (by decide +kernel) [] (by kernel_rfl) (by decide +kernel) ?_ | refine awp_region_draw' (m := 9) (by decide +kernel) [] (by kernel_rfl) (by decide +kernel) ?_ | refine awp_region_draw' (m := 10) (by decide +kernel) [] (by kernel_rfl) (by decide +kernel) ?_ | refine awp_region_draw' (m := 11) (by decide +kernel) [] (by kernel_rfl) (by decide +kernel) ?_); dsimp only [List.replicate, List.append_nil, List.cons_append, List.nil_append, List.length_cons, List.length_nil])
    | (refine awp_block ?_)
    | (refine awp_cond rfl (fun hcnd => ?_) (fun hcnd => ?_) <;> (try simp at hcnd) <;> (try contradiction) <;> (try (exfalso; omega)))
    | (refine awp_skip ?_)
    | (refine awp_exit ?_; simp only [athen_normal, athen_exit, athen_ret, ablock_self, ablock_ne, ablock_normal, ablock_ret, Nat.reduceBEq])
    | (refine awp_ret ?_; refine ret_go ?_)
    | (refine arun_no ?_ ?_; (focus (simp; done)); refine arun_slots (by first | (dsimp only [sput, sset]; done) | rfl) ?_)
    | ((first | refine arunD_nF rfl ?_ ?_ | refine arunD_nT rfl ?_ ?_); (focus (simp; done)); refine arunD_slots' (by first | (dsimp only [sput, sset]; done) | rfl) (by first | (dsimp only [List.tail]; done) | rfl) ?_)
    | ((first | refine arun_go ?_ ?_ | refine arunD_gF rfl ?_ ?_ | refine arunD_gT rfl ?_ ?_); (focus (simp; done)); intro K9 h9; simp (disch := (first | (simp; done) | omega | (simp; omega))) ; (try simp (disch := (first | omega | (simp; omega))) only [wrap_i64, wrap_u8, wrap_u32, wrap_u64, Int.tmod_eq_emod_of_nonneg, Int.tdiv_eq_ediv_of_nonneg]); (first | refine acall_pure (hsum_call l hl ht) (by simp) ?_ | skip); (repeat (refine And.intro (by first | omega | (simp; done) | (simp; omega) | assumption | (intro e9; have e8 := congrArg List.length e9; simp at e8; done) | (intro e9; have e8 := congrArg List.length e9; simp at e8; omega)) ?_)); (first | refine h9 _ _ (arun_slots (by first | (dsimp only [sput, sset]; done) | rfl) ?_) | refine h9 _ _ (arunD_slots' (by first | (dsimp only [sput, sset]; done) | rfl) (by first | (dsimp only [List.tail]; done) | rfl) ?_)); clear h9 K9)
    | (refine fall_go ?_)
    | (simp only [athen_normal, athen_exit, athen_ret, ablock_self, ablock_ne, ablock_normal, ablock_ret, Nat.reduceBEq])
    | (clear hK K; refine hK _ _ ?_; clear hK K)
    | (clear hK K; clear hK K; refine hK _ _ ?_; clear hK K)
    | (clear hK K; clear hK K; clear hK K; refine hK _ _ ?_; clear hK K)
    | (clear hK K; clear hK K; clear hK K; clear hK K; refine hK _ _ ?_; clear hK K)
    | (clear hK K; clear hK K; clear hK K; clear hK K; clear hK K; refine hK _ _ ?_; clear hK K))
  · simp
    exact .pure .str
  · exact .str
end Go.Proofs.Ytllehihgfbkgpaa
