/-
  CONTRACTS: OtsErrors.
  Conditions: none.
-/
import Derived.Test.YtllehihgfbkgpaaC25
namespace Go.Proofs.Ytllehihgfbkgpaa
open Go.VS
set_option linter.all false
attribute [local irreducible] arun arunD AWp aend shaS shaT

def pubA (id seed : List UInt8) (leaf : Int) : List UInt8 := if seedE id seed leaf = 0 then pubS id leaf (chains id seed leaf 35) else []
theorem pubV_tup (id seed : List UInt8) (leaf : Int) : pubV id seed leaf = .tup [.str (pubA id seed leaf), .int .i64 (seedE id seed leaf)] := by
  unfold pubV pubA; split
  · rename_i h; rw [h]
  · rfl
def sigA (id seed : List UInt8) (leaf : Int) (d : List UInt8) : List UInt8 := if seedE id seed leaf = 0 ∧ d.length = 16 then vF id seed leaf d 35 else []
def sigE (id seed : List UInt8) (leaf : Int) (d : List UInt8) : Int := if seedE id seed leaf = 0 then (if d.length = 16 then 0 else 7) else seedE id seed leaf
theorem sigV_tup (id seed : List UInt8) (leaf : Int) (d : List UInt8) : sigV id seed leaf d = .tup [.str (sigA id seed leaf d), .int .i64 (sigE id seed leaf d)] := by
  unfold sigV sigA sigE
  by_cases h : seedE id seed leaf = 0 <;> by_cases h2 : d.length = 16 <;> simp [h, h2]
def recA (id : List UInt8) (leaf : Int) (d sig : List UInt8) : List UInt8 := if leafE id leaf = 0 ∧ d.length = 16 ∧ sig.length = 560 then pubS id leaf (recs id leaf d sig 35) else []
def recE (id : List UInt8) (leaf : Int) (d sig : List UInt8) : Int := if leafE id leaf ≠ 0 then leafE id leaf else if d.length ≠ 16 then 7 else if sig.length ≠ 560 then 17 else 0
theorem recV_tup (id : List UInt8) (leaf : Int) (d sig : List UInt8) : recV id leaf d sig = .tup [.str (recA id leaf d sig), .int .i64 (recE id leaf d sig)] := by
  unfold recV recA recE
  by_cases h : leafE id leaf = 0 <;> by_cases h2 : d.length = 16 <;> by_cases h3 : sig.length = 560 <;> simp [h, h2, h3]

set_option maxRecDepth 100000 in
set_option maxHeartbeats 8000000 in
theorem otsErrors_call (i seed d s : List UInt8) (leaf : Int) (which : UInt8) (hi : i.length ≤ 140737488355328) (hs : seed.length ≤ 140737488355328) (hd : d.length ≤ 140737488355328) (hsl : s.length ≤ 140737488355328)
    (hl0 : -9223372036854775808 ≤ leaf) (hl1 : leaf ≤ 9223372036854775807) : PCall Try.prog 13 [.str i, .str seed, .str d, .str s, .int .i64 leaf, byteV which] (.bool true) := by
  refine pcall_body Try.func13 rfl Try.call13 ?_ ?_
  rotate_left 1
  refine awp_slots (s' := ((.str i : V) :: (.str seed : V) :: (.str d : V) :: (.str s : V) :: (.int .i64 leaf : V) :: (byteV which : V) :: V.junk :: V.junk :: V.junk :: V.junk :: V.junk :: V.junk :: V.junk :: V.junk :: V.junk :: V.junk :: V.junk :: V.junk :: V.junk :: V.junk :: V.junk :: V.junk :: V.junk :: V.junk :: V.junk :: V.junk :: V.junk :: V.junk :: V.junk :: V.junk :: V.junk :: V.junk :: V.junk :: V.junk :: V.junk :: V.junk :: V.junk :: V.junk :: V.junk :: V.junk :: V.junk :: V.junk :: V.junk :: V.junk :: V.junk :: V.junk :: V.junk :: V.junk :: V.junk :: V.junk :: V.junk :: V.junk :: V.junk :: V.junk :: V.junk :: V.junk :: V.junk :: V.junk :: V.junk :: V.junk :: V.junk :: V.junk :: V.junk :: V.junk :: V.junk :: V.junk :: V.junk :: V.junk :: V.junk :: V.junk :: V.junk :: V.junk :: V.junk :: V.junk :: V.junk :: V.junk :: V.junk :: V.junk :: V.junk :: V.junk :: V.junk :: V.junk :: V.junk :: V.junk :: V.junk :: V.junk :: V.junk :: V.junk :: V.junk :: V.junk :: V.junk :: V.junk :: V.junk :: V.junk :: V.junk :: V.junk :: V.junk :: V.junk :: V.junk :: V.junk :: V.junk :: V.junk :: V.junk :: V.junk :: V.junk :: V.junk :: V.junk :: V.junk :: V.junk :: V.junk :: V.junk :: V.junk :: V.junk :: V.junk :: V.junk :: V.junk :: V.junk :: V.junk :: V.junk :: V.junk :: V.junk :: V.junk :: V.junk :: V.junk :: V.junk :: V.junk :: V.junk :: V.junk :: V.junk :: V.junk :: V.junk :: V.junk :: V.junk :: V.junk :: V.junk :: V.junk :: V.junk :: V.junk :: V.junk :: V.junk :: V.junk :: V.junk :: V.junk :: V.junk :: [])) rfl ?_
  have hc : which.toNat < 256 := UInt8.toNat_lt _
  have hc2 : which.toNat ≤ 255 := by omega
  by_cases c1 : (60 : Int) < i.length
  · repeat' (first
    | ((first | refine arun_go0 rfl fun K9 h9 => ?_ | refine arunD_goF rfl rfl fun K9 h9 => ?_ | refine arunD_goT rfl rfl fun K9 h9 => ?_); simp (disch := (first | (simp; done) | omega | (simp; omega))) [c1]; (try simp (disch := (first | omega | (simp; omega))) only [wrap_i64, wrap_u8, wrap_u32, wrap_u64, Int.tmod_eq_emod_of_nonneg, Int.tdiv_eq_ediv_of_nonneg]); (first | refine acall_pure (awake11_call) (by simp) ?_ | skip); (repeat (refine And.intro (by first | omega | (simp; done) | (simp; omega) | assumption | (intro e9; have e8 := congrArg List.length e9; simp at e8; done) | (intro e9; have e8 := congrArg List.length e9; (try simp only [List.length_map, List.length_append] at e8); rw [List.length_nil] at e8; omega)) ?_)); (first | refine h9 _ _ (arun_slots (by first | (dsimp only [sput, sset]; done) | rfl) ?_) | refine h9 _ _ (arunD_slots' (by first | (dsimp only [sput, sset]; done) | rfl) (by first | (dsimp only [List.tail]; done) | rfl) ?_)); clear h9 K9)
    | (refine arun_end ?_)
    | (refine arunD_end ?_)
    | (refine awp_seq fun K hK => ?_)
    | (refine awp_region ?_)
    | (refine hK _ _ ?_; clear hK K)
    | ((first | refine awp_region_draw' (m := 0) (by decide +kernel) [] (by kernel_rfl) (by decide +kernel) ?_ | refine awp_region_draw' (m := 1) (by decide +kernel) [] (by kernel_rfl) (by decide +kernel) ?_ | refine awp_region_draw' (m := 2) (by decide +kernel) [] (by kernel_rfl) (by decide +kernel) ?_ | refine awp_region_draw' (m := 3) (by decide +kernel) [] (by kernel_rfl) (by decide +kernel) ?_ | refine awp_region_draw' (m := 4) (by decide +kernel) [] (by kernel_rfl) (by decide +kernel) ?_ | refine awp_region_draw' (m := 5) (by decide +kernel) [] (by kernel_rfl) (by decide +kernel) ?_ | refine awp_region_draw' (m := 6) (by decide +kernel) [] (by kernel_rfl) (by decide +kernel) ?_ | refine awp_region_draw' (m := 7) (by decide +kernel) [] (by kernel_rfl) (by decide +kernel) ?_ | refine awp_region_draw' (m := 8) (by decide +kernel) [] (by kernel_rfl) (by decide +kernel) ?_ | refine awp_region_draw' (m := 9) (by decide +kernel) [] (by kernel_rfl) (by decide +kernel) ?_ | refine awp_region_draw' (m := 10) (by decide +kernel) [] (by kernel_rfl) (by decide +kernel) ?_ | refine awp_region_draw' (m := 11) (by decide +kernel) [] (by kernel_rfl) (by decide +kernel) ?_); dsimp only [List.replicate, List.append_nil, List.cons_append, List.nil_append, List.length_cons, List.length_nil])
    | (refine awp_block ?_)
    | (refine awp_cond rfl (fun hcnd => ?_) (fun hcnd => ?_) <;> (try simp at hcnd) <;> (try contradiction) <;> (try (exfalso; omega)))
    | (refine awp_skip ?_)
    | (refine awp_exit ?_; simp only [athen_normal, athen_exit, athen_ret, ablock_self, ablock_ne, ablock_normal, ablock_ret, Nat.reduceBEq])
    | (refine awp_ret ?_; refine ret_go ?_)
    | (refine arun_no ?_ ?_; (focus (simp [c1]; done)); refine arun_slots (by first | (dsimp only [sput, sset]; done) | rfl) ?_)
    | ((first | refine arunD_nF rfl ?_ ?_ | refine arunD_nT rfl ?_ ?_); (focus (simp [c1]; done)); refine arunD_slots' (by first | (dsimp only [sput, sset]; done) | rfl) (by first | (dsimp only [List.tail]; done) | rfl) ?_)
    | ((first | refine arun_go ?_ ?_ | refine arunD_gF rfl ?_ ?_ | refine arunD_gT rfl ?_ ?_); (focus (simp [c1]; done)); intro K9 h9; simp (disch := (first | (simp; done) | omega | (simp; omega))) [c1]; (try simp (disch := (first | omega | (simp; omega))) only [wrap_i64, wrap_u8, wrap_u32, wrap_u64, Int.tmod_eq_emod_of_nonneg, Int.tdiv_eq_ediv_of_nonneg]); (first | refine acall_pure (awake11_call) (by simp) ?_ | skip); (repeat (refine And.intro (by first | omega | (simp; done) | (simp; omega) | assumption | (intro e9; have e8 := congrArg List.length e9; simp at e8; done) | (intro e9; have e8 := congrArg List.length e9; (try simp only [List.length_map, List.length_append] at e8); rw [List.length_nil] at e8; omega)) ?_)); (first | refine h9 _ _ (arun_slots (by first | (dsimp only [sput, sset]; done) | rfl) ?_) | refine h9 _ _ (arunD_slots' (by first | (dsimp only [sput, sset]; done) | rfl) (by first | (dsimp only [List.tail]; done) | rfl) ?_)); clear h9 K9)
    | (refine fall_go ?_)
    | (simp only [athen_normal, athen_exit, athen_ret, ablock_self, ablock_ne, ablock_normal, ablock_ret, Nat.reduceBEq])
    | (clear hK K; refine hK _ _ ?_; clear hK K)
    | (clear hK K; clear hK K; refine hK _ _ ?_; clear hK K)
    | (clear hK K; clear hK K; clear hK K; refine hK _ _ ?_; clear hK K)
    | (clear hK K; clear hK K; clear hK K; clear hK K; refine hK _ _ ?_; clear hK K)
    | (clear hK K; clear hK K; clear hK K; clear hK K; clear hK K; refine hK _ _ ?_; clear hK K))
    simp
    exact .pure .bool
  by_cases c2 : (60 : Int) < seed.length
  · repeat' (first
    | ((first | refine arun_go0 rfl fun K9 h9 => ?_ | refine arunD_goF rfl rfl fun K9 h9 => ?_ | refine arunD_goT rfl rfl fun K9 h9 => ?_); simp (disch := (first | (simp; done) | omega | (simp; omega))) [c1, c2]; (try simp (disch := (first | omega | (simp; omega))) only [wrap_i64, wrap_u8, wrap_u32, wrap_u64, Int.tmod_eq_emod_of_nonneg, Int.tdiv_eq_ediv_of_nonneg]); (first | refine acall_pure (awake11_call) (by simp) ?_ | skip); (repeat (refine And.intro (by first | omega | (simp; done) | (simp; omega) | assumption | (intro e9; have e8 := congrArg List.length e9; simp at e8; done) | (intro e9; have e8 := congrArg List.length e9; (try simp only [List.length_map, List.length_append] at e8); rw [List.length_nil] at e8; omega)) ?_)); (first | refine h9 _ _ (arun_slots (by first | (dsimp only [sput, sset]; done) | rfl) ?_) | refine h9 _ _ (arunD_slots' (by first | (dsimp only [sput, sset]; done) | rfl) (by first | (dsimp only [List.tail]; done) | rfl) ?_)); clear h9 K9)
    | (refine arun_end ?_)
    | (refine arunD_end ?_)
    | (refine awp_seq fun K hK => ?_)
    | (refine awp_region ?_)
    | (refine hK _ _ ?_; clear hK K)
    | ((first | refine awp_region_draw' (m := 0) (by decide +kernel) [] (by kernel_rfl) (by decide +kernel) ?_ | refine awp_region_draw' (m := 1) (by decide +kernel) [] (by kernel_rfl) (by decide +kernel) ?_ | refine awp_region_draw' (m := 2) (by decide +kernel) [] (by kernel_rfl) (by decide +kernel) ?_ | refine awp_region_draw' (m := 3) (by decide +kernel) [] (by kernel_rfl) (by decide +kernel) ?_ | refine awp_region_draw' (m := 4) (by decide +kernel) [] (by kernel_rfl) (by decide +kernel) ?_ | refine awp_region_draw' (m := 5) (by decide +kernel) [] (by kernel_rfl) (by decide +kernel) ?_ | refine awp_region_draw' (m := 6) (by decide +kernel) [] (by kernel_rfl) (by decide +kernel) ?_ | refine awp_region_draw' (m := 7) (by decide +kernel) [] (by kernel_rfl) (by decide +kernel) ?_ | refine awp_region_draw' (m := 8) (by decide +kernel) [] (by kernel_rfl) (by decide +kernel) ?_ | refine awp_region_draw' (m := 9) (by decide +kernel) [] (by kernel_rfl) (by decide +kernel) ?_ | refine awp_region_draw' (m := 10) (by decide +kernel) [] (by kernel_rfl) (by decide +kernel) ?_ | refine awp_region_draw' (m := 11) (by decide +kernel) [] (by kernel_rfl) (by decide +kernel) ?_); dsimp only [List.replicate, List.append_nil, List.cons_append, List.nil_append, List.length_cons, List.length_nil])
    | (refine awp_block ?_)
    | (refine awp_cond rfl (fun hcnd => ?_) (fun hcnd => ?_) <;> (try simp at hcnd) <;> (try contradiction) <;> (try (exfalso; omega)))
    | (refine awp_skip ?_)
    | (refine awp_exit ?_; simp only [athen_normal, athen_exit, athen_ret, ablock_self, ablock_ne, ablock_normal, ablock_ret, Nat.reduceBEq])
    | (refine awp_ret ?_; refine ret_go ?_)
    | (refine arun_no ?_ ?_; (focus (simp [c1, c2]; done)); refine arun_slots (by first | (dsimp only [sput, sset]; done) | rfl) ?_)
    | ((first | refine arunD_nF rfl ?_ ?_ | refine arunD_nT rfl ?_ ?_); (focus (simp [c1, c2]; done)); refine arunD_slots' (by first | (dsimp only [sput, sset]; done) | rfl) (by first | (dsimp only [List.tail]; done) | rfl) ?_)
    | ((first | refine arun_go ?_ ?_ | refine arunD_gF rfl ?_ ?_ | refine arunD_gT rfl ?_ ?_); (focus (simp [c1, c2]; done)); intro K9 h9; simp (disch := (first | (simp; done) | omega | (simp; omega))) [c1, c2]; (try simp (disch := (first | omega | (simp; omega))) only [wrap_i64, wrap_u8, wrap_u32, wrap_u64, Int.tmod_eq_emod_of_nonneg, Int.tdiv_eq_ediv_of_nonneg]); (first | refine acall_pure (awake11_call) (by simp) ?_ | skip); (repeat (refine And.intro (by first | omega | (simp; done) | (simp; omega) | assumption | (intro e9; have e8 := congrArg List.length e9; simp at e8; done) | (intro e9; have e8 := congrArg List.length e9; (try simp only [List.length_map, List.length_append] at e8); rw [List.length_nil] at e8; omega)) ?_)); (first | refine h9 _ _ (arun_slots (by first | (dsimp only [sput, sset]; done) | rfl) ?_) | refine h9 _ _ (arunD_slots' (by first | (dsimp only [sput, sset]; done) | rfl) (by first | (dsimp only [List.tail]; done) | rfl) ?_)); clear h9 K9)
    | (refine fall_go ?_)
    | (simp only [athen_normal, athen_exit, athen_ret, ablock_self, ablock_ne, ablock_normal, ablock_ret, Nat.reduceBEq])
    | (clear hK K; refine hK _ _ ?_; clear hK K)
    | (clear hK K; clear hK K; refine hK _ _ ?_; clear hK K)
    | (clear hK K; clear hK K; clear hK K; refine hK _ _ ?_; clear hK K)
    | (clear hK K; clear hK K; clear hK K; clear hK K; refine hK _ _ ?_; clear hK K)
    | (clear hK K; clear hK K; clear hK K; clear hK K; clear hK K; refine hK _ _ ?_; clear hK K))
    simp
    exact .pure .bool
  by_cases c3 : (60 : Int) < d.length
  · repeat' (first
    | ((first | refine arun_go0 rfl fun K9 h9 => ?_ | refine arunD_goF rfl rfl fun K9 h9 => ?_ | refine arunD_goT rfl rfl fun K9 h9 => ?_); simp (disch := (first | (simp; done) | omega | (simp; omega))) [c1, c2, c3]; (try simp (disch := (first | omega | (simp; omega))) only [wrap_i64, wrap_u8, wrap_u32, wrap_u64, Int.tmod_eq_emod_of_nonneg, Int.tdiv_eq_ediv_of_nonneg]); (first | refine acall_pure (awake11_call) (by simp) ?_ | skip); (repeat (refine And.intro (by first | omega | (simp; done) | (simp; omega) | assumption | (intro e9; have e8 := congrArg List.length e9; simp at e8; done) | (intro e9; have e8 := congrArg List.length e9; (try simp only [List.length_map, List.length_append] at e8); rw [List.length_nil] at e8; omega)) ?_)); (first | refine h9 _ _ (arun_slots (by first | (dsimp only [sput, sset]; done) | rfl) ?_) | refine h9 _ _ (arunD_slots' (by first | (dsimp only [sput, sset]; done) | rfl) (by first | (dsimp only [List.tail]; done) | rfl) ?_)); clear h9 K9)
    | (refine arun_end ?_)
    | (refine arunD_end ?_)
    | (refine awp_seq fun K hK => ?_)
    | (refine awp_region ?_)
    | (refine hK _ _ ?_; clear hK K)
    | ((first | refine awp_region_draw' (m := 0) (by decide +kernel) [] (by kernel_rfl) (by decide +kernel) ?_ | refine awp_region_draw' (m := 1) (by decide +kernel) [] (by kernel_rfl) (by decide +kernel) ?_ | refine awp_region_draw' (m := 2) (by decide +kernel) [] (by kernel_rfl) (by decide +kernel) ?_ | refine awp_region_draw' (m := 3) (by decide +kernel) [] (by kernel_rfl) (by decide +kernel) ?_ | refine awp_region_draw' (m := 4) (by decide +kernel) [] (by kernel_rfl) (by decide +kernel) ?_ | refine awp_region_draw' (m := 5) (by decide +kernel) [] (by kernel_rfl) (by decide +kernel) ?_ | refine awp_region_draw' (m := 6) (by decide +kernel) [] (by kernel_rfl) (by decide +kernel) ?_ | refine awp_region_draw' (m := 7) (by decide +kernel) [] (by kernel_rfl) (by decide +kernel) ?_ | refine awp_region_draw' (m := 8) (by decide +kernel) [] (by kernel_rfl) (by decide +kernel) ?_ | refine awp_region_draw' (m := 9) (by decide +kernel) [] (by kernel_rfl) (by decide +kernel) ?_ | refine awp_region_draw' (m := 10) (by decide +kernel) [] (by kernel_rfl) (by decide +kernel) ?_ | refine awp_region_draw' (m := 11) (by decide +kernel) [] (by kernel_rfl) (by decide +kernel) ?_); dsimp only [List.replicate, List.append_nil, List.cons_append, List.nil_append, List.length_cons, List.length_nil])
    | (refine awp_block ?_)
    | (refine awp_cond rfl (fun hcnd => ?_) (fun hcnd => ?_) <;> (try simp at hcnd) <;> (try contradiction) <;> (try (exfalso; omega)))
    | (refine awp_skip ?_)
    | (refine awp_exit ?_; simp only [athen_normal, athen_exit, athen_ret, ablock_self, ablock_ne, ablock_normal, ablock_ret, Nat.reduceBEq])
    | (refine awp_ret ?_; refine ret_go ?_)
    | (refine arun_no ?_ ?_; (focus (simp [c1, c2, c3]; done)); refine arun_slots (by first | (dsimp only [sput, sset]; done) | rfl) ?_)
    | ((first | refine arunD_nF rfl ?_ ?_ | refine arunD_nT rfl ?_ ?_); (focus (simp [c1, c2, c3]; done)); refine arunD_slots' (by first | (dsimp only [sput, sset]; done) | rfl) (by first | (dsimp only [List.tail]; done) | rfl) ?_)
    | ((first | refine arun_go ?_ ?_ | refine arunD_gF rfl ?_ ?_ | refine arunD_gT rfl ?_ ?_); (focus (simp [c1, c2, c3]; done)); intro K9 h9; simp (disch := (first | (simp; done) | omega | (simp; omega))) [c1, c2, c3]; (try simp (disch := (first | omega | (simp; omega))) only [wrap_i64, wrap_u8, wrap_u32, wrap_u64, Int.tmod_eq_emod_of_nonneg, Int.tdiv_eq_ediv_of_nonneg]); (first | refine acall_pure (awake11_call) (by simp) ?_ | skip); (repeat (refine And.intro (by first | omega | (simp; done) | (simp; omega) | assumption | (intro e9; have e8 := congrArg List.length e9; simp at e8; done) | (intro e9; have e8 := congrArg List.length e9; (try simp only [List.length_map, List.length_append] at e8); rw [List.length_nil] at e8; omega)) ?_)); (first | refine h9 _ _ (arun_slots (by first | (dsimp only [sput, sset]; done) | rfl) ?_) | refine h9 _ _ (arunD_slots' (by first | (dsimp only [sput, sset]; done) | rfl) (by first | (dsimp only [List.tail]; done) | rfl) ?_)); clear h9 K9)
    | (refine fall_go ?_)
    | (simp only [athen_normal, athen_exit, athen_ret, ablock_self, ablock_ne, ablock_normal, ablock_ret, Nat.reduceBEq])
    | (clear hK K; refine hK _ _ ?_; clear hK K)
    | (clear hK K; clear hK K; refine hK _ _ ?_; clear hK K)
    | (clear hK K; clear hK K; clear hK K; refine hK _ _ ?_; clear hK K)
    | (clear hK K; clear hK K; clear hK K; clear hK K; refine hK _ _ ?_; clear hK K)
    | (clear hK K; clear hK K; clear hK K; clear hK K; clear hK K; refine hK _ _ ?_; clear hK K))
    simp
    exact .pure .bool
  by_cases c4 : (700 : Int) < s.length
  · repeat' (first
    | ((first | refine arun_go0 rfl fun K9 h9 => ?_ | refine arunD_goF rfl rfl fun K9 h9 => ?_ | refine arunD_goT rfl rfl fun K9 h9 => ?_); simp (disch := (first | (simp; done) | omega | (simp; omega))) [c1, c2, c3, c4]; (try simp (disch := (first | omega | (simp; omega))) only [wrap_i64, wrap_u8, wrap_u32, wrap_u64, Int.tmod_eq_emod_of_nonneg, Int.tdiv_eq_ediv_of_nonneg]); (first | refine acall_pure (awake11_call) (by simp) ?_ | skip); (repeat (refine And.intro (by first | omega | (simp; done) | (simp; omega) | assumption | (intro e9; have e8 := congrArg List.length e9; simp at e8; done) | (intro e9; have e8 := congrArg List.length e9; (try simp only [List.length_map, List.length_append] at e8); rw [List.length_nil] at e8; omega)) ?_)); (first | refine h9 _ _ (arun_slots (by first | (dsimp only [sput, sset]; done) | rfl) ?_) | refine h9 _ _ (arunD_slots' (by first | (dsimp only [sput, sset]; done) | rfl) (by first | (dsimp only [List.tail]; done) | rfl) ?_)); clear h9 K9)
    | (refine arun_end ?_)
    | (refine arunD_end ?_)
    | (refine awp_seq fun K hK => ?_)
    | (refine awp_region ?_)
    | (refine hK _ _ ?_; clear hK K)
    | ((first | refine awp_region_draw' (m := 0) (by decide +kernel) [] (by kernel_rfl) (by decide +kernel) ?_ | refine awp_region_draw' (m := 1) (by decide +kernel) [] (by kernel_rfl) (by decide +kernel) ?_ | refine awp_region_draw' (m := 2) (by decide +kernel) [] (by kernel_rfl) (by decide +kernel) ?_ | refine awp_region_draw' (m := 3) (by decide +kernel) [] (by kernel_rfl) (by decide +kernel) ?_ | refine awp_region_draw' (m := 4) (by decide +kernel) [] (by kernel_rfl) (by decide +kernel) ?_ | refine awp_region_draw' (m := 5) (by decide +kernel) [] (by kernel_rfl) (by decide +kernel) ?_ | refine awp_region_draw' (m := 6) (by decide +kernel) [] (by kernel_rfl) (by decide +kernel) ?_ | refine awp_region_draw' (m := 7) (by decide +kernel) [] (by kernel_rfl) (by decide +kernel) ?_ | refine awp_region_draw' (m := 8) (by decide +kernel) [] (by kernel_rfl) (by decide +kernel) ?_ | refine awp_region_draw' (m := 9) (by decide +kernel) [] (by kernel_rfl) (by decide +kernel) ?_ | refine awp_region_draw' (m := 10) (by decide +kernel) [] (by kernel_rfl) (by decide +kernel) ?_ | refine awp_region_draw' (m := 11) (by decide +kernel) [] (by kernel_rfl) (by decide +kernel) ?_); dsimp only [List.replicate, List.append_nil, List.cons_append, List.nil_append, List.length_cons, List.length_nil])
    | (refine awp_block ?_)
    | (refine awp_cond rfl (fun hcnd => ?_) (fun hcnd => ?_) <;> (try simp at hcnd) <;> (try contradiction) <;> (try (exfalso; omega)))
    | (refine awp_skip ?_)
    | (refine awp_exit ?_; simp only [athen_normal, athen_exit, athen_ret, ablock_self, ablock_ne, ablock_normal, ablock_ret, Nat.reduceBEq])
    | (refine awp_ret ?_; refine ret_go ?_)
    | (refine arun_no ?_ ?_; (focus (simp [c1, c2, c3, c4]; done)); refine arun_slots (by first | (dsimp only [sput, sset]; done) | rfl) ?_)
    | ((first | refine arunD_nF rfl ?_ ?_ | refine arunD_nT rfl ?_ ?_); (focus (simp [c1, c2, c3, c4]; done)); refine arunD_slots' (by first | (dsimp only [sput, sset]; done) | rfl) (by first | (dsimp only [List.tail]; done) | rfl) ?_)
    | ((first | refine arun_go ?_ ?_ | refine arunD_gF rfl ?_ ?_ | refine arunD_gT rfl ?_ ?_); (focus (simp [c1, c2, c3, c4]; done)); intro K9 h9; simp (disch := (first | (simp; done) | omega | (simp; omega))) [c1, c2, c3, c4]; (try simp (disch := (first | omega | (simp; omega))) only [wrap_i64, wrap_u8, wrap_u32, wrap_u64, Int.tmod_eq_emod_of_nonneg, Int.tdiv_eq_ediv_of_nonneg]); (first | refine acall_pure (awake11_call) (by simp) ?_ | skip); (repeat (refine And.intro (by first | omega | (simp; done) | (simp; omega) | assumption | (intro e9; have e8 := congrArg List.length e9; simp at e8; done) | (intro e9; have e8 := congrArg List.length e9; (try simp only [List.length_map, List.length_append] at e8); rw [List.length_nil] at e8; omega)) ?_)); (first | refine h9 _ _ (arun_slots (by first | (dsimp only [sput, sset]; done) | rfl) ?_) | refine h9 _ _ (arunD_slots' (by first | (dsimp only [sput, sset]; done) | rfl) (by first | (dsimp only [List.tail]; done) | rfl) ?_)); clear h9 K9)
    | (refine fall_go ?_)
    | (simp only [athen_normal, athen_exit, athen_ret, ablock_self, ablock_ne, ablock_normal, ablock_ret, Nat.reduceBEq])
    | (clear hK K; refine hK _ _ ?_; clear hK K)
    | (clear hK K; clear hK K; refine hK _ _ ?_; clear hK K)
    | (clear hK K; clear hK K; clear hK K; refine hK _ _ ?_; clear hK K)
    | (clear hK K; clear hK K; clear hK K; clear hK K; refine hK _ _ ?_; clear hK K)
    | (clear hK K; clear hK K; clear hK K; clear hK K; clear hK K; refine hK _ _ ?_; clear hK K))
    simp
    exact .pure .bool
  · iterate 31 (first
    | ((first | refine arun_go0 rfl fun K9 h9 => ?_ | refine arunD_goF rfl rfl fun K9 h9 => ?_ | refine arunD_goT rfl rfl fun K9 h9 => ?_); simp (disch := (first | (simp; done) | omega | (simp; omega))) [c1, c2, c3, c4]; (try simp (disch := (first | omega | (simp; omega))) only [wrap_i64, wrap_u8, wrap_u32, wrap_u64, Int.tmod_eq_emod_of_nonneg, Int.tdiv_eq_ediv_of_nonneg]); (repeat (refine And.intro (by first | omega | (simp; done) | (simp; omega) | assumption | (intro e9; have e8 := congrArg List.length e9; simp at e8; done) | (intro e9; have e8 := congrArg List.length e9; (try simp only [List.length_map, List.length_append] at e8); rw [List.length_nil] at e8; omega)) ?_)); (first | refine h9 _ _ (arun_slots (by first | (dsimp only [sput, sset]; done) | rfl) ?_) | refine h9 _ _ (arunD_slots' (by first | (dsimp only [sput, sset]; done) | rfl) (by first | (dsimp only [List.tail]; done) | rfl) ?_)); clear h9 K9)
    | (refine arun_end ?_)
    | (refine arunD_end ?_)
    | (refine awp_seq fun K hK => ?_)
    | (refine awp_region ?_)
    | (refine hK _ _ ?_; clear hK K)
    | ((first | refine awp_region_draw' (m := 0) (by decide +kernel) [] (by kernel_rfl) (by decide +kernel) ?_ | refine awp_region_draw' (m := 1) (by decide +kernel) [] (by kernel_rfl) (by decide +kernel) ?_ | refine awp_region_draw' (m := 2) (by decide +kernel) [] (by kernel_rfl) (by decide +kernel) ?_ | refine awp_region_draw' (m := 3) (by decide +kernel) [] (by kernel_rfl) (by decide +kernel) ?_ | refine awp_region_draw' (m := 4) (by decide +kernel) [] (by kernel_rfl) (by decide +kernel) ?_ | refine awp_region_draw' (m := 5) (by decide +kernel) [] (by kernel_rfl) (by decide +kernel) ?_ | refine awp_region_draw' (m := 6) (by decide +kernel) [] (by kernel_rfl) (by decide +kernel) ?_ | refine awp_region_draw' (m := 7) (by decide +kernel) [] (by kernel_rfl) (by decide +kernel) ?_ | refine awp_region_draw' (m := 8) (by decide +kernel) [] (by kernel_rfl) (by decide +kernel) ?_ | refine awp_region_draw' (m := 9) (by decide +kernel) [] (by kernel_rfl) (by decide +kernel) ?_ | refine awp_region_draw' (m := 10) (by decide +kernel) [] (by kernel_rfl) (by decide +kernel) ?_ | refine awp_region_draw' (m := 11) (by decide +kernel) [] (by kernel_rfl) (by decide +kernel) ?_); dsimp only [List.replicate, List.append_nil, List.cons_append, List.nil_append, List.length_cons, List.length_nil])
    | (refine awp_block ?_)
    | (refine awp_cond rfl (fun hcnd => ?_) (fun hcnd => ?_) <;> (try simp at hcnd) <;> (try contradiction) <;> (try (exfalso; omega)))
    | (refine awp_skip ?_)
    | (refine awp_exit ?_; simp only [athen_normal, athen_exit, athen_ret, ablock_self, ablock_ne, ablock_normal, ablock_ret, Nat.reduceBEq])
    | (refine awp_ret ?_; refine ret_go ?_)
    | (refine arun_no ?_ ?_; (focus (simp [c1, c2, c3, c4]; done)); refine arun_slots (by first | (dsimp only [sput, sset]; done) | rfl) ?_)
    | ((first | refine arunD_nF rfl ?_ ?_ | refine arunD_nT rfl ?_ ?_); (focus (simp [c1, c2, c3, c4]; done)); refine arunD_slots' (by first | (dsimp only [sput, sset]; done) | rfl) (by first | (dsimp only [List.tail]; done) | rfl) ?_)
    | ((first | refine arun_go ?_ ?_ | refine arunD_gF rfl ?_ ?_ | refine arunD_gT rfl ?_ ?_); (focus (simp [c1, c2, c3, c4]; done)); intro K9 h9; simp (disch := (first | (simp; done) | omega | (simp; omega))) [c1, c2, c3, c4]; (try simp (disch := (first | omega | (simp; omega))) only [wrap_i64, wrap_u8, wrap_u32, wrap_u64, Int.tmod_eq_emod_of_nonneg, Int.tdiv_eq_ediv_of_nonneg]); (repeat (refine And.intro (by first | omega | (simp; done) | (simp; omega) | assumption | (intro e9; have e8 := congrArg List.length e9; simp at e8; done) | (intro e9; have e8 := congrArg List.length e9; (try simp only [List.length_map, List.length_append] at e8); rw [List.length_nil] at e8; omega)) ?_)); (first | refine h9 _ _ (arun_slots (by first | (dsimp only [sput, sset]; done) | rfl) ?_) | refine h9 _ _ (arunD_slots' (by first | (dsimp only [sput, sset]; done) | rfl) (by first | (dsimp only [List.tail]; done) | rfl) ?_)); clear h9 K9)
    | (refine fall_go ?_)
    | (simp only [athen_normal, athen_exit, athen_ret, ablock_self, ablock_ne, ablock_normal, ablock_ret, Nat.reduceBEq])
    | (clear hK K; refine hK _ _ ?_; clear hK K)
    | (clear hK K; clear hK K; refine hK _ _ ?_; clear hK K)
    | (clear hK K; clear hK K; clear hK K; refine hK _ _ ?_; clear hK K)
    | (clear hK K; clear hK K; clear hK K; clear hK K; refine hK _ _ ?_; clear hK K)
    | (clear hK K; clear hK K; clear hK K; clear hK K; clear hK K; refine hK _ _ ?_; clear hK K))
    refine awp_seq' fun K hK hL => ?_
    have main : ∀ i' : List UInt8, i'.length ≤ 60 → K (((V.str i') :: (V.str seed) :: (V.str d) :: (V.str s) :: (V.int .i64 leaf) :: (byteV which) :: V.junk :: V.junk :: V.junk :: V.junk :: V.junk :: V.junk :: (V.bool false) :: V.junk :: V.junk :: V.junk :: V.junk :: V.junk :: V.junk :: V.junk :: V.junk :: V.junk :: V.junk :: V.junk :: V.junk :: V.junk :: V.junk :: V.junk :: V.junk :: V.junk :: V.junk :: V.junk :: V.junk :: V.junk :: V.junk :: V.junk :: V.junk :: V.junk :: V.junk :: V.junk :: V.junk :: V.junk :: V.junk :: V.junk :: V.junk :: V.junk :: V.junk :: V.junk :: V.junk :: V.junk :: V.junk :: V.junk :: V.junk :: V.junk :: V.junk :: V.junk :: V.junk :: V.junk :: V.junk :: V.junk :: V.junk :: V.junk :: V.junk :: V.junk :: V.junk :: V.junk :: V.junk :: V.junk :: V.junk :: V.junk :: V.junk :: V.junk :: V.junk :: V.junk :: V.junk :: V.junk :: V.junk :: V.junk :: V.junk :: V.junk :: V.junk :: V.junk :: V.junk :: V.junk :: V.junk :: V.junk :: V.junk :: V.junk :: V.junk :: V.junk :: V.junk :: V.junk :: V.junk :: V.junk :: V.junk :: V.junk :: V.junk :: V.junk :: V.junk :: V.junk :: V.junk :: V.junk :: V.junk :: V.junk :: V.junk :: V.junk :: V.junk :: V.junk :: V.junk :: V.junk :: V.junk :: V.junk :: V.junk :: V.junk :: V.junk :: V.junk :: V.junk :: V.junk :: V.junk :: V.junk :: V.junk :: V.junk :: V.junk :: V.junk :: V.junk :: V.junk :: V.junk :: V.junk :: V.junk :: V.junk :: V.junk :: V.junk :: V.junk :: V.junk :: V.junk :: V.junk :: V.junk :: V.junk :: V.junk :: V.junk :: V.junk :: V.junk :: V.junk :: V.junk :: [])) [] := by
      intro i' hi'
      refine hK _ _ ?_
      clear hK hL K
      refine awp_seq' fun K hK hL => ?_
      have main : ∀ seed' : List UInt8, seed'.length ≤ 60 → K (((V.str i') :: (V.str seed') :: (V.str d) :: (V.str s) :: (V.int .i64 leaf) :: (byteV which) :: V.junk :: V.junk :: V.junk :: V.junk :: V.junk :: V.junk :: (V.bool false) :: V.junk :: V.junk :: V.junk :: V.junk :: V.junk :: V.junk :: V.junk :: V.junk :: V.junk :: V.junk :: V.junk :: V.junk :: V.junk :: V.junk :: V.junk :: V.junk :: V.junk :: V.junk :: V.junk :: V.junk :: V.junk :: V.junk :: V.junk :: V.junk :: V.junk :: V.junk :: V.junk :: V.junk :: V.junk :: V.junk :: V.junk :: V.junk :: V.junk :: V.junk :: V.junk :: V.junk :: V.junk :: V.junk :: V.junk :: V.junk :: V.junk :: V.junk :: V.junk :: V.junk :: V.junk :: V.junk :: V.junk :: V.junk :: V.junk :: V.junk :: V.junk :: V.junk :: V.junk :: V.junk :: V.junk :: V.junk :: V.junk :: V.junk :: V.junk :: V.junk :: V.junk :: V.junk :: V.junk :: V.junk :: V.junk :: V.junk :: V.junk :: V.junk :: V.junk :: V.junk :: V.junk :: V.junk :: V.junk :: V.junk :: V.junk :: V.junk :: V.junk :: V.junk :: V.junk :: V.junk :: V.junk :: V.junk :: V.junk :: V.junk :: V.junk :: V.junk :: V.junk :: V.junk :: V.junk :: V.junk :: V.junk :: V.junk :: V.junk :: V.junk :: V.junk :: V.junk :: V.junk :: V.junk :: V.junk :: V.junk :: V.junk :: V.junk :: V.junk :: V.junk :: V.junk :: V.junk :: V.junk :: V.junk :: V.junk :: V.junk :: V.junk :: V.junk :: V.junk :: V.junk :: V.junk :: V.junk :: V.junk :: V.junk :: V.junk :: V.junk :: V.junk :: V.junk :: V.junk :: V.junk :: V.junk :: V.junk :: V.junk :: V.junk :: V.junk :: V.junk :: V.junk :: [])) [] := by
        intro seed' hs'
        refine hK _ _ ?_
        clear hK hL K
        refine awp_seq' fun K hK hL => ?_
        have main : ∀ d' : List UInt8, d'.length ≤ 60 → K (((V.str i') :: (V.str seed') :: (V.str d') :: (V.str s) :: (V.int .i64 leaf) :: (byteV which) :: V.junk :: V.junk :: V.junk :: V.junk :: V.junk :: V.junk :: (V.bool false) :: V.junk :: V.junk :: V.junk :: V.junk :: V.junk :: V.junk :: V.junk :: V.junk :: V.junk :: V.junk :: V.junk :: V.junk :: V.junk :: V.junk :: V.junk :: V.junk :: V.junk :: V.junk :: V.junk :: V.junk :: V.junk :: V.junk :: V.junk :: V.junk :: V.junk :: V.junk :: V.junk :: V.junk :: V.junk :: V.junk :: V.junk :: V.junk :: V.junk :: V.junk :: V.junk :: V.junk :: V.junk :: V.junk :: V.junk :: V.junk :: V.junk :: V.junk :: V.junk :: V.junk :: V.junk :: V.junk :: V.junk :: V.junk :: V.junk :: V.junk :: V.junk :: V.junk :: V.junk :: V.junk :: V.junk :: V.junk :: V.junk :: V.junk :: V.junk :: V.junk :: V.junk :: V.junk :: V.junk :: V.junk :: V.junk :: V.junk :: V.junk :: V.junk :: V.junk :: V.junk :: V.junk :: V.junk :: V.junk :: V.junk :: V.junk :: V.junk :: V.junk :: V.junk :: V.junk :: V.junk :: V.junk :: V.junk :: V.junk :: V.junk :: V.junk :: V.junk :: V.junk :: V.junk :: V.junk :: V.junk :: V.junk :: V.junk :: V.junk :: V.junk :: V.junk :: V.junk :: V.junk :: V.junk :: V.junk :: V.junk :: V.junk :: V.junk :: V.junk :: V.junk :: V.junk :: V.junk :: V.junk :: V.junk :: V.junk :: V.junk :: V.junk :: V.junk :: V.junk :: V.junk :: V.junk :: V.junk :: V.junk :: V.junk :: V.junk :: V.junk :: V.junk :: V.junk :: V.junk :: V.junk :: V.junk :: V.junk :: V.junk :: V.junk :: V.junk :: V.junk :: V.junk :: [])) [] := by
          intro d' hd'
          refine hK _ _ ?_
          clear hK hL K
          refine awp_seq' fun K hK hL => ?_
          have main : ∀ leaf' : Int, K (((V.str i') :: (V.str seed') :: (V.str d') :: (V.str s) :: (V.int .i64 leaf') :: (byteV which) :: V.junk :: V.junk :: V.junk :: V.junk :: V.junk :: V.junk :: (V.bool false) :: V.junk :: V.junk :: V.junk :: V.junk :: V.junk :: V.junk :: V.junk :: V.junk :: V.junk :: V.junk :: V.junk :: V.junk :: V.junk :: V.junk :: V.junk :: V.junk :: V.junk :: V.junk :: V.junk :: V.junk :: V.junk :: V.junk :: V.junk :: V.junk :: V.junk :: V.junk :: V.junk :: V.junk :: V.junk :: V.junk :: V.junk :: V.junk :: V.junk :: V.junk :: V.junk :: V.junk :: V.junk :: V.junk :: V.junk :: V.junk :: V.junk :: V.junk :: V.junk :: V.junk :: V.junk :: V.junk :: V.junk :: V.junk :: V.junk :: V.junk :: V.junk :: V.junk :: V.junk :: V.junk :: V.junk :: V.junk :: V.junk :: V.junk :: V.junk :: V.junk :: V.junk :: V.junk :: V.junk :: V.junk :: V.junk :: V.junk :: V.junk :: V.junk :: V.junk :: V.junk :: V.junk :: V.junk :: V.junk :: V.junk :: V.junk :: V.junk :: V.junk :: V.junk :: V.junk :: V.junk :: V.junk :: V.junk :: V.junk :: V.junk :: V.junk :: V.junk :: V.junk :: V.junk :: V.junk :: V.junk :: V.junk :: V.junk :: V.junk :: V.junk :: V.junk :: V.junk :: V.junk :: V.junk :: V.junk :: V.junk :: V.junk :: V.junk :: V.junk :: V.junk :: V.junk :: V.junk :: V.junk :: V.junk :: V.junk :: V.junk :: V.junk :: V.junk :: V.junk :: V.junk :: V.junk :: V.junk :: V.junk :: V.junk :: V.junk :: V.junk :: V.junk :: V.junk :: V.junk :: V.junk :: V.junk :: V.junk :: V.junk :: V.junk :: V.junk :: V.junk :: V.junk :: [])) [] := by
            intro leaf'
            refine hK _ _ ?_
            clear hK hL K
            repeat' (first
    | ((first | refine arun_go0 rfl fun K9 h9 => ?_ | refine arunD_goF rfl rfl fun K9 h9 => ?_ | refine arunD_goT rfl rfl fun K9 h9 => ?_); simp (disch := (first | (simp; done) | omega | (simp; omega))) [pubV_tup, sigV_tup, recV_tup]; (try simp (disch := (first | omega | (simp; omega))) only [wrap_i64, wrap_u8, wrap_u32, wrap_u64, Int.tmod_eq_emod_of_nonneg, Int.tdiv_eq_ediv_of_nonneg]); (first | refine acall_pure (awake11_call) (by simp) ?_ | refine acall_pure (opublic_call _ _ _ (by omega) (by omega)) (by simp) ?_ | refine acall_pure (ropublic_call _ _ _ (by omega) (by omega)) (by simp) ?_ | refine acall_pure (sign_call _ _ _ _ (by omega) (by omega) (by omega)) (by simp) ?_ | refine acall_pure (rsign_call _ _ _ _ (by omega) (by omega) (by omega)) (by simp) ?_ | refine acall_pure (recover_call _ _ _ _ (by omega) (by omega) (by omega)) (by simp) ?_ | refine acall_pure (rrecover_call _ _ _ _ (by omega) (by omega) (by omega)) (by simp) ?_ | skip); (repeat (refine And.intro (by first | omega | (simp; done) | (simp; omega) | assumption | (intro e9; have e8 := congrArg List.length e9; simp at e8; done) | (intro e9; have e8 := congrArg List.length e9; (try simp only [List.length_map, List.length_append] at e8); rw [List.length_nil] at e8; omega)) ?_)); (first | refine h9 _ _ (arun_slots (by first | (dsimp only [sput, sset]; done) | rfl) ?_) | refine h9 _ _ (arunD_slots' (by first | (dsimp only [sput, sset]; done) | rfl) (by first | (dsimp only [List.tail]; done) | rfl) ?_)); clear h9 K9)
    | (refine arun_end ?_)
    | (refine arunD_end ?_)
    | (refine awp_seq fun K hK => ?_)
    | (refine awp_region ?_)
    | (refine hK _ _ ?_; clear hK K)
    | ((first | refine awp_region_draw' (m := 0) (by decide +kernel) [] (by kernel_rfl) (by decide +kernel) ?_ | refine awp_region_draw' (m := 1) (by decide +kernel) [] (by kernel_rfl) (by decide +kernel) ?_ | refine awp_region_draw' (m := 2) (by decide +kernel) [] (by kernel_rfl) (by decide +kernel) ?_ | refine awp_region_draw' (m := 3) (by decide +kernel) [] (by kernel_rfl) (by decide +kernel) ?_ | refine awp_region_draw' (m := 4) (by decide +kernel) [] (by kernel_rfl) (by decide +kernel) ?_ | refine awp_region_draw' (m := 5) (by decide +kernel) [] (by kernel_rfl) (by decide +kernel) ?_ | refine awp_region_draw' (m := 6) (by decide +kernel) [] (by kernel_rfl) (by decide +kernel) ?_ | refine awp_region_draw' (m := 7) (by decide +kernel) [] (by kernel_rfl) (by decide +kernel) ?_ | refine awp_region_draw' (m := 8) (by decide +kernel) [] (by kernel_rfl) (by decide +kernel) ?_ | refine awp_region_draw' (m := 9) (by decide +kernel) [] (by kernel_rfl) (by decide +kernel) ?_ | refine awp_region_draw' (m := 10) (by decide +kernel) [] (by kernel_rfl) (by decide +kernel) ?_ | refine awp_region_draw' (m := 11) (by decide +kernel) [] (by kernel_rfl) (by decide +kernel) ?_); dsimp only [List.replicate, List.append_nil, List.cons_append, List.nil_append, List.length_cons, List.length_nil])
    | (refine awp_block ?_)
    | (refine awp_cond rfl (fun hcnd => ?_) (fun hcnd => ?_) <;> (try simp at hcnd) <;> (try contradiction) <;> (try (exfalso; omega)))
    | (refine awp_skip ?_)
    | (refine awp_exit ?_; simp only [athen_normal, athen_exit, athen_ret, ablock_self, ablock_ne, ablock_normal, ablock_ret, Nat.reduceBEq])
    | (refine awp_ret ?_; refine ret_go ?_)
    | (refine arun_no ?_ ?_; (focus (simp [pubV_tup, sigV_tup, recV_tup]; done)); refine arun_slots (by first | (dsimp only [sput, sset]; done) | rfl) ?_)
    | ((first | refine arunD_nF rfl ?_ ?_ | refine arunD_nT rfl ?_ ?_); (focus (simp [pubV_tup, sigV_tup, recV_tup]; done)); refine arunD_slots' (by first | (dsimp only [sput, sset]; done) | rfl) (by first | (dsimp only [List.tail]; done) | rfl) ?_)
    | ((first | refine arun_go ?_ ?_ | refine arunD_gF rfl ?_ ?_ | refine arunD_gT rfl ?_ ?_); (focus (simp [pubV_tup, sigV_tup, recV_tup]; done)); intro K9 h9; simp (disch := (first | (simp; done) | omega | (simp; omega))) [pubV_tup, sigV_tup, recV_tup]; (try simp (disch := (first | omega | (simp; omega))) only [wrap_i64, wrap_u8, wrap_u32, wrap_u64, Int.tmod_eq_emod_of_nonneg, Int.tdiv_eq_ediv_of_nonneg]); (first | refine acall_pure (awake11_call) (by simp) ?_ | refine acall_pure (opublic_call _ _ _ (by omega) (by omega)) (by simp) ?_ | refine acall_pure (ropublic_call _ _ _ (by omega) (by omega)) (by simp) ?_ | refine acall_pure (sign_call _ _ _ _ (by omega) (by omega) (by omega)) (by simp) ?_ | refine acall_pure (rsign_call _ _ _ _ (by omega) (by omega) (by omega)) (by simp) ?_ | refine acall_pure (recover_call _ _ _ _ (by omega) (by omega) (by omega)) (by simp) ?_ | refine acall_pure (rrecover_call _ _ _ _ (by omega) (by omega) (by omega)) (by simp) ?_ | skip); (repeat (refine And.intro (by first | omega | (simp; done) | (simp; omega) | assumption | (intro e9; have e8 := congrArg List.length e9; simp at e8; done) | (intro e9; have e8 := congrArg List.length e9; (try simp only [List.length_map, List.length_append] at e8); rw [List.length_nil] at e8; omega)) ?_)); (first | refine h9 _ _ (arun_slots (by first | (dsimp only [sput, sset]; done) | rfl) ?_) | refine h9 _ _ (arunD_slots' (by first | (dsimp only [sput, sset]; done) | rfl) (by first | (dsimp only [List.tail]; done) | rfl) ?_)); clear h9 K9)
    | (refine fall_go ?_)
    | (simp only [athen_normal, athen_exit, athen_ret, ablock_self, ablock_ne, ablock_normal, ablock_ret, Nat.reduceBEq])
    | (clear hK K; refine hK _ _ ?_; clear hK K)
    | (clear hK K; clear hK K; refine hK _ _ ?_; clear hK K)
    | (clear hK K; clear hK K; clear hK K; refine hK _ _ ?_; clear hK K)
    | (clear hK K; clear hK K; clear hK K; clear hK K; refine hK _ _ ?_; clear hK K)
    | (clear hK K; clear hK K; clear hK K; clear hK K; clear hK K; refine hK _ _ ?_; clear hK K))
            simp
            exact .pure .bool
          repeat' (first
    | ((first | refine arun_go0 rfl fun K9 h9 => ?_ | refine arunD_goF rfl rfl fun K9 h9 => ?_ | refine arunD_goT rfl rfl fun K9 h9 => ?_); simp (disch := (first | (simp; done) | omega | (simp; omega))) ; (try simp (disch := (first | omega | (simp; omega))) only [wrap_i64, wrap_u8, wrap_u32, wrap_u64, Int.tmod_eq_emod_of_nonneg, Int.tdiv_eq_ediv_of_nonneg]); (repeat (refine And.intro (by first | omega | (simp; done) | (simp; omega) | assumption | (intro e9; have e8 := congrArg List.length e9; simp at e8; done) | (intro e9; have e8 := congrArg List.length e9; (try simp only [List.length_map, List.length_append] at e8); rw [List.length_nil] at e8; omega)) ?_)); (first | refine h9 _ _ (arun_slots (by first | (dsimp only [sput, sset]; done) | rfl) ?_) | refine h9 _ _ (arunD_slots' (by first | (dsimp only [sput, sset]; done) | rfl) (by first | (dsimp only [List.tail]; done) | rfl) ?_)); clear h9 K9)
    | (refine arun_end ?_)
    | (refine arunD_end ?_)
    | (refine awp_seq fun K hK => ?_)
    | (refine awp_region ?_)
    | (refine hK _ _ ?_; clear hK K)
    | ((first | refine awp_region_draw' (m := 0) (by decide +kernel) [] (by kernel_rfl) (by decide +kernel) ?_ | refine awp_region_draw' (m := 1) (by decide +kernel) [] (by kernel_rfl) (by decide +kernel) ?_ | refine awp_region_draw' (m := 2) (by decide +kernel) [] (by kernel_rfl) (by decide +kernel) ?_ | refine awp_region_draw' (m := 3) (by decide +kernel) [] (by kernel_rfl) (by decide +kernel) ?_ | refine awp_region_draw' (m := 4) (by decide +kernel) [] (by kernel_rfl) (by decide +kernel) ?_ | refine awp_region_draw' (m := 5) (by decide +kernel) [] (by kernel_rfl) (by decide +kernel) ?_ | refine awp_region_draw' (m := 6) (by decide +kernel) [] (by kernel_rfl) (by decide +kernel) ?_ | refine awp_region_draw' (m := 7) (by decide +kernel) [] (by kernel_rfl) (by decide +kernel) ?_ | refine awp_region_draw' (m := 8) (by decide +kernel) [] (by kernel_rfl) (by decide +kernel) ?_ | refine awp_region_draw' (m := 9) (by decide +kernel) [] (by kernel_rfl) (by decide +kernel) ?_ | refine awp_region_draw' (m := 10) (by decide +kernel) [] (by kernel_rfl) (by decide +kernel) ?_ | refine awp_region_draw' (m := 11) (by decide +kernel) [] (by kernel_rfl) (by decide +kernel) ?_); dsimp only [List.replicate, List.append_nil, List.cons_append, List.nil_append, List.length_cons, List.length_nil])
    | (refine awp_block ?_)
    | (refine awp_cond rfl (fun hcnd => ?_) (fun hcnd => ?_) <;> (try simp at hcnd) <;> (try contradiction) <;> (try (exfalso; omega)))
    | (refine awp_skip ?_)
    | (refine awp_exit ?_; simp only [athen_normal, athen_exit, athen_ret, ablock_self, ablock_ne, ablock_normal, ablock_ret, Nat.reduceBEq])
    | (refine awp_ret ?_; refine ret_go ?_)
    | (refine arun_no ?_ ?_; (focus (simp ; done)); refine arun_slots (by first | (dsimp only [sput, sset]; done) | rfl) ?_)
    | ((first | refine arunD_nF rfl ?_ ?_ | refine arunD_nT rfl ?_ ?_); (focus (simp ; done)); refine arunD_slots' (by first | (dsimp only [sput, sset]; done) | rfl) (by first | (dsimp only [List.tail]; done) | rfl) ?_)
    | ((first | refine arun_go ?_ ?_ | refine arunD_gF rfl ?_ ?_ | refine arunD_gT rfl ?_ ?_); (focus (simp ; done)); intro K9 h9; simp (disch := (first | (simp; done) | omega | (simp; omega))) ; (try simp (disch := (first | omega | (simp; omega))) only [wrap_i64, wrap_u8, wrap_u32, wrap_u64, Int.tmod_eq_emod_of_nonneg, Int.tdiv_eq_ediv_of_nonneg]); (repeat (refine And.intro (by first | omega | (simp; done) | (simp; omega) | assumption | (intro e9; have e8 := congrArg List.length e9; simp at e8; done) | (intro e9; have e8 := congrArg List.length e9; (try simp only [List.length_map, List.length_append] at e8); rw [List.length_nil] at e8; omega)) ?_)); (first | refine h9 _ _ (arun_slots (by first | (dsimp only [sput, sset]; done) | rfl) ?_) | refine h9 _ _ (arunD_slots' (by first | (dsimp only [sput, sset]; done) | rfl) (by first | (dsimp only [List.tail]; done) | rfl) ?_)); clear h9 K9)
    | (refine fall_go ?_)
    | (simp only [athen_normal, athen_exit, athen_ret, ablock_self, ablock_ne, ablock_normal, ablock_ret, Nat.reduceBEq])
    | (clear hK K; refine hK _ _ ?_; clear hK K)
    | (clear hK K; clear hK K; refine hK _ _ ?_; clear hK K)
    | (clear hK K; clear hK K; clear hK K; refine hK _ _ ?_; clear hK K)
    | (clear hK K; clear hK K; clear hK K; clear hK K; refine hK _ _ ?_; clear hK K)
    | (clear hK K; clear hK K; clear hK K; clear hK K; clear hK K; refine hK _ _ ?_; clear hK K))
          · exact hL _ _ _ _ (Le.drop (by simp)) (main (250 + (which.toNat : Int) % 9))
          · exact hL _ _ _ _ (Le.drop (by simp)) (main leaf)
        repeat' (first
    | ((first | refine arun_go0 rfl fun K9 h9 => ?_ | refine arunD_goF rfl rfl fun K9 h9 => ?_ | refine arunD_goT rfl rfl fun K9 h9 => ?_); simp (disch := (first | (simp; done) | omega | (simp; omega))) ; (try simp (disch := (first | omega | (simp; omega))) only [wrap_i64, wrap_u8, wrap_u32, wrap_u64, Int.tmod_eq_emod_of_nonneg, Int.tdiv_eq_ediv_of_nonneg]); (first | refine acall_pure (mdig_call d (by omega)) (by simp) ?_ | skip); (repeat (refine And.intro (by first | omega | (simp; done) | (simp; omega) | assumption | (intro e9; have e8 := congrArg List.length e9; simp at e8; done) | (intro e9; have e8 := congrArg List.length e9; (try simp only [List.length_map, List.length_append] at e8); rw [List.length_nil] at e8; omega)) ?_)); (first | refine h9 _ _ (arun_slots (by first | (dsimp only [sput, sset]; done) | rfl) ?_) | refine h9 _ _ (arunD_slots' (by first | (dsimp only [sput, sset]; done) | rfl) (by first | (dsimp only [List.tail]; done) | rfl) ?_)); clear h9 K9)
    | (refine arun_end ?_)
    | (refine arunD_end ?_)
    | (refine awp_seq fun K hK => ?_)
    | (refine awp_region ?_)
    | (refine hK _ _ ?_; clear hK K)
    | ((first | refine awp_region_draw' (m := 0) (by decide +kernel) [] (by kernel_rfl) (by decide +kernel) ?_ | refine awp_region_draw' (m := 1) (by decide +kernel) [] (by kernel_rfl) (by decide +kernel) ?_ | refine awp_region_draw' (m := 2) (by decide +kernel) [] (by kernel_rfl) (by decide +kernel) ?_ | refine awp_region_draw' (m := 3) (by decide +kernel) [] (by kernel_rfl) (by decide +kernel) ?_ | refine awp_region_draw' (m := 4) (by decide +kernel) [] (by kernel_rfl) (by decide +kernel) ?_ | refine awp_region_draw' (m := 5) (by decide +kernel) [] (by kernel_rfl) (by decide +kernel) ?_ | refine awp_region_draw' (m := 6) (by decide +kernel) [] (by kernel_rfl) (by decide +kernel) ?_ | refine awp_region_draw' (m := 7) (by decide +kernel) [] (by kernel_rfl) (by decide +kernel) ?_ | refine awp_region_draw' (m := 8) (by decide +kernel) [] (by kernel_rfl) (by decide +kernel) ?_ | refine awp_region_draw' (m := 9) (by decide +kernel) [] (by kernel_rfl) (by decide +kernel) ?_ | refine awp_region_draw' (m := 10) (by decide +kernel) [] (by kernel_rfl) (by decide +kernel) ?_ | refine awp_region_draw' (m := 11) (by decide +kernel) [] (by kernel_rfl) (by decide +kernel) ?_); dsimp only [List.replicate, List.append_nil, List.cons_append, List.nil_append, List.length_cons, List.length_nil])
    | (refine awp_block ?_)
    | (refine awp_cond rfl (fun hcnd => ?_) (fun hcnd => ?_) <;> (try simp at hcnd) <;> (try contradiction) <;> (try (exfalso; omega)))
    | (refine awp_skip ?_)
    | (refine awp_exit ?_; simp only [athen_normal, athen_exit, athen_ret, ablock_self, ablock_ne, ablock_normal, ablock_ret, Nat.reduceBEq])
    | (refine awp_ret ?_; refine ret_go ?_)
    | (refine arun_no ?_ ?_; (focus (simp ; done)); refine arun_slots (by first | (dsimp only [sput, sset]; done) | rfl) ?_)
    | ((first | refine arunD_nF rfl ?_ ?_ | refine arunD_nT rfl ?_ ?_); (focus (simp ; done)); refine arunD_slots' (by first | (dsimp only [sput, sset]; done) | rfl) (by first | (dsimp only [List.tail]; done) | rfl) ?_)
    | ((first | refine arun_go ?_ ?_ | refine arunD_gF rfl ?_ ?_ | refine arunD_gT rfl ?_ ?_); (focus (simp ; done)); intro K9 h9; simp (disch := (first | (simp; done) | omega | (simp; omega))) ; (try simp (disch := (first | omega | (simp; omega))) only [wrap_i64, wrap_u8, wrap_u32, wrap_u64, Int.tmod_eq_emod_of_nonneg, Int.tdiv_eq_ediv_of_nonneg]); (first | refine acall_pure (mdig_call d (by omega)) (by simp) ?_ | skip); (repeat (refine And.intro (by first | omega | (simp; done) | (simp; omega) | assumption | (intro e9; have e8 := congrArg List.length e9; simp at e8; done) | (intro e9; have e8 := congrArg List.length e9; (try simp only [List.length_map, List.length_append] at e8); rw [List.length_nil] at e8; omega)) ?_)); (first | refine h9 _ _ (arun_slots (by first | (dsimp only [sput, sset]; done) | rfl) ?_) | refine h9 _ _ (arunD_slots' (by first | (dsimp only [sput, sset]; done) | rfl) (by first | (dsimp only [List.tail]; done) | rfl) ?_)); clear h9 K9)
    | (refine fall_go ?_)
    | (simp only [athen_normal, athen_exit, athen_ret, ablock_self, ablock_ne, ablock_normal, ablock_ret, Nat.reduceBEq])
    | (clear hK K; refine hK _ _ ?_; clear hK K)
    | (clear hK K; clear hK K; refine hK _ _ ?_; clear hK K)
    | (clear hK K; clear hK K; clear hK K; refine hK _ _ ?_; clear hK K)
    | (clear hK K; clear hK K; clear hK K; clear hK K; refine hK _ _ ?_; clear hK K)
    | (clear hK K; clear hK K; clear hK K; clear hK K; clear hK K; refine hK _ _ ?_; clear hK K))
        · exact hL _ _ _ _ (Le.drop (by simp)) (main (mdigS d) (by simp))
        · exact hL _ _ _ _ (Le.drop (by simp)) (main d (by omega))
      repeat' (first
    | ((first | refine arun_go0 rfl fun K9 h9 => ?_ | refine arunD_goF rfl rfl fun K9 h9 => ?_ | refine arunD_goT rfl rfl fun K9 h9 => ?_); simp (disch := (first | (simp; done) | omega | (simp; omega))) ; (try simp (disch := (first | omega | (simp; omega))) only [wrap_i64, wrap_u8, wrap_u32, wrap_u64, Int.tmod_eq_emod_of_nonneg, Int.tdiv_eq_ediv_of_nonneg]); (first | refine acall_pure (mseed_call _) (by simp) ?_ | skip); (repeat (refine And.intro (by first | omega | (simp; done) | (simp; omega) | assumption | (intro e9; have e8 := congrArg List.length e9; simp at e8; done) | (intro e9; have e8 := congrArg List.length e9; (try simp only [List.length_map, List.length_append] at e8); rw [List.length_nil] at e8; omega)) ?_)); (first | refine h9 _ _ (arun_slots (by first | (dsimp only [sput, sset]; done) | rfl) ?_) | refine h9 _ _ (arunD_slots' (by first | (dsimp only [sput, sset]; done) | rfl) (by first | (dsimp only [List.tail]; done) | rfl) ?_)); clear h9 K9)
    | (refine arun_end ?_)
    | (refine arunD_end ?_)
    | (refine awp_seq fun K hK => ?_)
    | (refine awp_region ?_)
    | (refine hK _ _ ?_; clear hK K)
    | ((first | refine awp_region_draw' (m := 0) (by decide +kernel) [] (by kernel_rfl) (by decide +kernel) ?_ | refine awp_region_draw' (m := 1) (by decide +kernel) [] (by kernel_rfl) (by decide +kernel) ?_ | refine awp_region_draw' (m := 2) (by decide +kernel) [] (by kernel_rfl) (by decide +kernel) ?_ | refine awp_region_draw' (m := 3) (by decide +kernel) [] (by kernel_rfl) (by decide +kernel) ?_ | refine awp_region_draw' (m := 4) (by decide +kernel) [] (by kernel_rfl) (by decide +kernel) ?_ | refine awp_region_draw' (m := 5) (by decide +kernel) [] (by kernel_rfl) (by decide +kernel) ?_ | refine awp_region_draw' (m := 6) (by decide +kernel) [] (by kernel_rfl) (by decide +kernel) ?_ | refine awp_region_draw' (m := 7) (by decide +kernel) [] (by kernel_rfl) (by decide +kernel) ?_ | refine awp_region_draw' (m := 8) (by decide +kernel) [] (by kernel_rfl) (by decide +kernel) ?_ | refine awp_region_draw' (m := 9) (by decide +kernel) [] (by kernel_rfl) (by decide +kernel) ?_ | refine awp_region_draw' (m := 10) (by decide +kernel) [] (by kernel_rfl) (by decide +kernel) ?_ | refine awp_region_draw' (m := 11) (by decide +kernel) [] (by kernel_rfl) (by decide +kernel) ?_); dsimp only [List.replicate, List.append_nil, List.cons_append, List.nil_append, List.length_cons, List.length_nil])
    | (refine awp_block ?_)
    | (refine awp_cond rfl (fun hcnd => ?_) (fun hcnd => ?_) <;> (try simp at hcnd) <;> (try contradiction) <;> (try (exfalso; omega)))
    | (refine awp_skip ?_)
    | (refine awp_exit ?_; simp only [athen_normal, athen_exit, athen_ret, ablock_self, ablock_ne, ablock_normal, ablock_ret, Nat.reduceBEq])
    | (refine awp_ret ?_; refine ret_go ?_)
    | (refine arun_no ?_ ?_; (focus (simp ; done)); refine arun_slots (by first | (dsimp only [sput, sset]; done) | rfl) ?_)
    | ((first | refine arunD_nF rfl ?_ ?_ | refine arunD_nT rfl ?_ ?_); (focus (simp ; done)); refine arunD_slots' (by first | (dsimp only [sput, sset]; done) | rfl) (by first | (dsimp only [List.tail]; done) | rfl) ?_)
    | ((first | refine arun_go ?_ ?_ | refine arunD_gF rfl ?_ ?_ | refine arunD_gT rfl ?_ ?_); (focus (simp ; done)); intro K9 h9; simp (disch := (first | (simp; done) | omega | (simp; omega))) ; (try simp (disch := (first | omega | (simp; omega))) only [wrap_i64, wrap_u8, wrap_u32, wrap_u64, Int.tmod_eq_emod_of_nonneg, Int.tdiv_eq_ediv_of_nonneg]); (first | refine acall_pure (mseed_call _) (by simp) ?_ | skip); (repeat (refine And.intro (by first | omega | (simp; done) | (simp; omega) | assumption | (intro e9; have e8 := congrArg List.length e9; simp at e8; done) | (intro e9; have e8 := congrArg List.length e9; (try simp only [List.length_map, List.length_append] at e8); rw [List.length_nil] at e8; omega)) ?_)); (first | refine h9 _ _ (arun_slots (by first | (dsimp only [sput, sset]; done) | rfl) ?_) | refine h9 _ _ (arunD_slots' (by first | (dsimp only [sput, sset]; done) | rfl) (by first | (dsimp only [List.tail]; done) | rfl) ?_)); clear h9 K9)
    | (refine fall_go ?_)
    | (simp only [athen_normal, athen_exit, athen_ret, ablock_self, ablock_ne, ablock_normal, ablock_ret, Nat.reduceBEq])
    | (clear hK K; refine hK _ _ ?_; clear hK K)
    | (clear hK K; clear hK K; refine hK _ _ ?_; clear hK K)
    | (clear hK K; clear hK K; clear hK K; refine hK _ _ ?_; clear hK K)
    | (clear hK K; clear hK K; clear hK K; clear hK K; refine hK _ _ ?_; clear hK K)
    | (clear hK K; clear hK K; clear hK K; clear hK K; clear hK K; refine hK _ _ ?_; clear hK K))
      · exact hL _ _ _ _ (Le.drop (by simp)) (main (mseedS which.toNat) (by simp))
      · exact hL _ _ _ _ (Le.drop (by simp)) (main seed (by omega))
    repeat' (first
    | ((first | refine arun_go0 rfl fun K9 h9 => ?_ | refine arunD_goF rfl rfl fun K9 h9 => ?_ | refine arunD_goT rfl rfl fun K9 h9 => ?_); simp (disch := (first | (simp; done) | omega | (simp; omega))) ; (try simp (disch := (first | omega | (simp; omega))) only [wrap_i64, wrap_u8, wrap_u32, wrap_u64, Int.tmod_eq_emod_of_nonneg, Int.tdiv_eq_ediv_of_nonneg]); (first | refine acall_pure (mid_call which) (by simp) ?_ | skip); (repeat (refine And.intro (by first | omega | (simp; done) | (simp; omega) | assumption | (intro e9; have e8 := congrArg List.length e9; simp at e8; done) | (intro e9; have e8 := congrArg List.length e9; (try simp only [List.length_map, List.length_append] at e8); rw [List.length_nil] at e8; omega)) ?_)); (first | refine h9 _ _ (arun_slots (by first | (dsimp only [sput, sset]; done) | rfl) ?_) | refine h9 _ _ (arunD_slots' (by first | (dsimp only [sput, sset]; done) | rfl) (by first | (dsimp only [List.tail]; done) | rfl) ?_)); clear h9 K9)
    | (refine arun_end ?_)
    | (refine arunD_end ?_)
    | (refine awp_seq fun K hK => ?_)
    | (refine awp_region ?_)
    | (refine hK _ _ ?_; clear hK K)
    | ((first | refine awp_region_draw' (m := 0) (by decide +kernel) [] (by kernel_rfl) (by decide +kernel) ?_ | refine awp_region_draw' (m := 1) (by decide +kernel) [] (by kernel_rfl) (by decide +kernel) ?_ | refine awp_region_draw' (m := 2) (by decide +kernel) [] (by kernel_rfl) (by decide +kernel) ?_ | refine awp_region_draw' (m := 3) (by decide +kernel) [] (by kernel_rfl) (by decide +kernel) ?_ | refine awp_region_draw' (m := 4) (by decide +kernel) [] (by kernel_rfl) (by decide +kernel) ?_ | refine awp_region_draw' (m := 5) (by decide +kernel) [] (by kernel_rfl) (by decide +kernel) ?_ | refine awp_region_draw' (m := 6) (by decide +kernel) [] (by kernel_rfl) (by decide +kernel) ?_ | refine awp_region_draw' (m := 7) (by decide +kernel) [] (by kernel_rfl) (by decide +kernel) ?_ | refine awp_region_draw' (m := 8) (by decide +kernel) [] (by kernel_rfl) (by decide +kernel) ?_ | refine awp_region_draw' (m := 9) (by decide +kernel) [] (by kernel_rfl) (by decide +kernel) ?_ | refine awp_region_draw' (m := 10) (by decide +kernel) [] (by kernel_rfl) (by decide +kernel) ?_ | refine awp_region_draw' (m := 11) (by decide +kernel) [] (by kernel_rfl) (by decide +kernel) ?_); dsimp only [List.replicate, List.append_nil, List.cons_append, List.nil_append, List.length_cons, List.length_nil])
    | (refine awp_block ?_)
    | (refine awp_cond rfl (fun hcnd => ?_) (fun hcnd => ?_) <;> (try simp at hcnd) <;> (try contradiction) <;> (try (exfalso; omega)))
    | (refine awp_skip ?_)
    | (refine awp_exit ?_; simp only [athen_normal, athen_exit, athen_ret, ablock_self, ablock_ne, ablock_normal, ablock_ret, Nat.reduceBEq])
    | (refine awp_ret ?_; refine ret_go ?_)
    | (refine arun_no ?_ ?_; (focus (simp ; done)); refine arun_slots (by first | (dsimp only [sput, sset]; done) | rfl) ?_)
    | ((first | refine arunD_nF rfl ?_ ?_ | refine arunD_nT rfl ?_ ?_); (focus (simp ; done)); refine arunD_slots' (by first | (dsimp only [sput, sset]; done) | rfl) (by first | (dsimp only [List.tail]; done) | rfl) ?_)
    | ((first | refine arun_go ?_ ?_ | refine arunD_gF rfl ?_ ?_ | refine arunD_gT rfl ?_ ?_); (focus (simp ; done)); intro K9 h9; simp (disch := (first | (simp; done) | omega | (simp; omega))) ; (try simp (disch := (first | omega | (simp; omega))) only [wrap_i64, wrap_u8, wrap_u32, wrap_u64, Int.tmod_eq_emod_of_nonneg, Int.tdiv_eq_ediv_of_nonneg]); (first | refine acall_pure (mid_call which) (by simp) ?_ | skip); (repeat (refine And.intro (by first | omega | (simp; done) | (simp; omega) | assumption | (intro e9; have e8 := congrArg List.length e9; simp at e8; done) | (intro e9; have e8 := congrArg List.length e9; (try simp only [List.length_map, List.length_append] at e8); rw [List.length_nil] at e8; omega)) ?_)); (first | refine h9 _ _ (arun_slots (by first | (dsimp only [sput, sset]; done) | rfl) ?_) | refine h9 _ _ (arunD_slots' (by first | (dsimp only [sput, sset]; done) | rfl) (by first | (dsimp only [List.tail]; done) | rfl) ?_)); clear h9 K9)
    | (refine fall_go ?_)
    | (simp only [athen_normal, athen_exit, athen_ret, ablock_self, ablock_ne, ablock_normal, ablock_ret, Nat.reduceBEq])
    | (clear hK K; refine hK _ _ ?_; clear hK K)
    | (clear hK K; clear hK K; refine hK _ _ ?_; clear hK K)
    | (clear hK K; clear hK K; clear hK K; refine hK _ _ ?_; clear hK K)
    | (clear hK K; clear hK K; clear hK K; clear hK K; refine hK _ _ ?_; clear hK K)
    | (clear hK K; clear hK K; clear hK K; clear hK K; clear hK K; refine hK _ _ ?_; clear hK K))
    · exact hL _ _ _ _ (Le.drop (by simp)) (main (midS which.toNat) (by simp))
    · exact hL _ _ _ _ (Le.drop (by simp)) (main i (by omega))
  · exact .bool
theorem otsErrors_fits : ∀ xs, FitsAll Try.prog 8 Try.f13.params.toList xs → PCall Try.prog 13 xs (.bool true) := by
  intro xs h
  rw [show Try.f13.params.toList = [9, 9, 9, 9, 3, 5] by kernel_rfl] at h
  obtain ⟨x1, xs, rfl, h1, h⟩ := fitsAll_cons h
  obtain ⟨x2, xs, rfl, h2, h⟩ := fitsAll_cons h
  obtain ⟨x3, xs, rfl, h3, h⟩ := fitsAll_cons h
  obtain ⟨x4, xs, rfl, h4, h⟩ := fitsAll_cons h
  obtain ⟨x5, xs, rfl, h5, h⟩ := fitsAll_cons h
  obtain ⟨x6, xs, rfl, h6, h⟩ := fitsAll_cons h
  obtain rfl := fitsAll_nil h
  obtain ⟨i, hi, rfl⟩ := fits_str (by kernel_rfl) h1
  obtain ⟨seed, hs, rfl⟩ := fits_str (by kernel_rfl) h2
  obtain ⟨d, hd, rfl⟩ := fits_str (by kernel_rfl) h3
  obtain ⟨s, hsl, rfl⟩ := fits_str (by kernel_rfl) h4
  obtain ⟨leaf, ⟨h0, h1'⟩, rfl⟩ := fits_int (by kernel_rfl) h5
  obtain ⟨which, rfl⟩ := fits_u8 (by kernel_rfl) h6
  exact otsErrors_call i seed d s leaf which hi hs hd hsl h0 h1'
end Go.Proofs.Ytllehihgfbkgpaa
