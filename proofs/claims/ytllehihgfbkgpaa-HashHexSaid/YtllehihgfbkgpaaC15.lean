/-
  CONTRACTS: HashHex.
  Conditions: none.
-/
import Derived.Test.YtllehihgfbkgpaaC14
namespace Go.Proofs.Ytllehihgfbkgpaa
open Go.VS
set_option linter.all false
attribute [local irreducible] arun arunD AWp aend shaS shaT

set_option maxRecDepth 100000 in
set_option maxHeartbeats 4000000 in
theorem hashHex_call (b s : List UInt8) (hb : b.length ≤ 140737488355328) (hs : s.length ≤ 140737488355328) : PCall Try.prog 9 [.str b, .str s] (.bool true) := by
  refine pcall_body Try.func9 rfl Try.call9 ?_ ?_
  rotate_left 1
  refine awp_slots (s' := ((.str b : V) :: (.str s : V) :: V.junk :: V.junk :: V.junk :: V.junk :: V.junk :: V.junk :: V.junk :: V.junk :: V.junk :: V.junk :: V.junk :: V.junk :: V.junk :: V.junk :: V.junk :: V.junk :: V.junk :: V.junk :: V.junk :: V.junk :: V.junk :: V.junk :: V.junk :: V.junk :: V.junk :: V.junk :: V.junk :: V.junk :: V.junk :: V.junk :: V.junk :: V.junk :: V.junk :: V.junk :: V.junk :: V.junk :: V.junk :: V.junk :: V.junk :: V.junk :: V.junk :: V.junk :: V.junk :: V.junk :: V.junk :: V.junk :: V.junk :: V.junk :: V.junk :: V.junk :: V.junk :: V.junk :: V.junk :: V.junk :: V.junk :: V.junk :: V.junk :: V.junk :: V.junk :: V.junk :: V.junk :: V.junk :: V.junk :: V.junk :: [])) rfl ?_
  by_cases h1 : (400 : Int) < b.length
  · repeat' (first
    | ((first | refine arun_go0 rfl fun K9 h9 => ?_ | refine arunD_goF rfl rfl fun K9 h9 => ?_ | refine arunD_goT rfl rfl fun K9 h9 => ?_); simp (disch := (first | (simp; done) | omega | (simp; omega))) [h1]; (try simp (disch := (first | omega | (simp; omega))) only [wrap_i64, wrap_u8, wrap_u32, wrap_u64, Int.tmod_eq_emod_of_nonneg, Int.tdiv_eq_ediv_of_nonneg]); (first | refine acall_pure (awake01_call) (by simp) ?_ | skip); (repeat (refine And.intro (by first | omega | (simp; done) | (simp; omega) | assumption | (intro e9; have e8 := congrArg List.length e9; simp at e8; done) | (intro e9; have e8 := congrArg List.length e9; (try simp only [List.length_map, List.length_append] at e8); rw [List.length_nil] at e8; omega)) ?_)); (first | refine h9 _ _ (arun_slots (by first | (dsimp only [sput, sset]; done) | rfl) ?_) | refine h9 _ _ (arunD_slots' (by first | (dsimp only [sput, sset]; done) | rfl) (by first | (dsimp only [List.tail]; done) | rfl) ?_)); clear h9 K9)
    | (refine arun_end ?_)
    | (refine arunD_end ?_)
    | (refine awp_seq fun K hK => ?_)
    | (refine awp_region ?_)
    | (refine hK _ _ ?_; clear hK K)
    | ((first | refine awp_region_draw' (m := 0) (by decide +kernel) [] (by kernel_rfl) (by decide +kernel) ?_ | refine awp_region_draw' (m := 1) (by decide +kernel) [] (by kernel_rfl) (by decide +kernel) ?_ | refine awp_region_draw' (m := 2) (by decide +kernel) [] (by kernel_rfl) (by decide +kernel) ?_ | refine awp_region_draw' (m := 3) (by decide +kernel) [] (by kernel_rfl) (by decide +kernel) ?_ | refine awp_region_draw' (m := 4) (by decide +kernel) [] (by kernel_rfl) (by decide +kernel) ?_ | refine awp_region_draw' (m := 5) (by decide +kernel) [] (by kernel_rfl) (by decide +kernel) ?_ | refine awp_region_draw' (m := 6) (by decide +kernel) [] (by kernel_rfl) (by decide +kernel) ?_ | refine awp_region_draw' (m := 7) (by decide +kernel) [] (by kernel_rfl) (by decide +kernel) ?_ | refine awp_region_draw' (m := 8) (by decide +kernel) [] (by kernel_rfl) (by decide +kernel) ?_ | refine awp_region_draw' (m := 9) (by decide +kernel) [] (by kernel_rfl) (by decide +kernel) ?_ | refine awp_region_draw' (m := 10) (by decide +kernel) [] (by kernel_rfl) (by decide +kernel) ?_ | refine awp_region_draw' (m := 11) (by decide +kernel) [] (by kernel_rfl) (by decide +kernel) ?_); dsimp only [List.replicate, List.append_nil, List.cons_append, List.nil_append, List.length_cons, List.length_nil])
    | (refine awp_block ?_)
    | (refine awp_cond rfl (fun hcnd => ?_) (fun hcnd => ?_) <;> (try simp at hcnd) <;> (try contradiction) <;> (try (exfalso; omega)))
    | (refine awp_skip ?_)
    | (refine awp_exit ?_; simp only [athen_normal, athen_exit, athen_ret, ablock_self, ablock_ne, ablock_normal, ablock_ret, Nat.reduceBEq])
    | (refine awp_ret ?_; refine ret_go ?_)
    | (refine arun_no ?_ ?_; (focus (simp [h1]; done)); refine arun_slots (by first | (dsimp only [sput, sset]; done) | rfl) ?_)
    | ((first | refine arunD_nF rfl ?_ ?_ | refine arunD_nT rfl ?_ ?_); (focus (simp [h1]; done)); refine arunD_slots' (by first | (dsimp only [sput, sset]; done) | rfl) (by first | (dsimp only [List.tail]; done) | rfl) ?_)
    | ((first | refine arun_go ?_ ?_ | refine arunD_gF rfl ?_ ?_ | refine arunD_gT rfl ?_ ?_); (focus (simp [h1]; done)); intro K9 h9; simp (disch := (first | (simp; done) | omega | (simp; omega))) [h1]; (try simp (disch := (first | omega | (simp; omega))) only [wrap_i64, wrap_u8, wrap_u32, wrap_u64, Int.tmod_eq_emod_of_nonneg, Int.tdiv_eq_ediv_of_nonneg]); (first | refine acall_pure (awake01_call) (by simp) ?_ | skip); (repeat (refine And.intro (by first | omega | (simp; done) | (simp; omega) | assumption | (intro e9; have e8 := congrArg List.length e9; simp at e8; done) | (intro e9; have e8 := congrArg List.length e9; (try simp only [List.length_map, List.length_append] at e8); rw [List.length_nil] at e8; omega)) ?_)); (first | refine h9 _ _ (arun_slots (by first | (dsimp only [sput, sset]; done) | rfl) ?_) | refine h9 _ _ (arunD_slots' (by first | (dsimp only [sput, sset]; done) | rfl) (by first | (dsimp only [List.tail]; done) | rfl) ?_)); clear h9 K9)
    | (refine fall_go ?_)
    | (simp only [athen_normal, athen_exit, athen_ret, ablock_self, ablock_ne, ablock_normal, ablock_ret, Nat.reduceBEq])
    | (clear hK K; refine hK _ _ ?_; clear hK K)
    | (clear hK K; clear hK K; refine hK _ _ ?_; clear hK K)
    | (clear hK K; clear hK K; clear hK K; refine hK _ _ ?_; clear hK K)
    | (clear hK K; clear hK K; clear hK K; clear hK K; refine hK _ _ ?_; clear hK K)
    | (clear hK K; clear hK K; clear hK K; clear hK K; clear hK K; refine hK _ _ ?_; clear hK K))
    simp
    exact .pure .bool
  by_cases h2 : (400 : Int) < s.length
  · repeat' (first
    | ((first | refine arun_go0 rfl fun K9 h9 => ?_ | refine arunD_goF rfl rfl fun K9 h9 => ?_ | refine arunD_goT rfl rfl fun K9 h9 => ?_); simp (disch := (first | (simp; done) | omega | (simp; omega))) [h1, h2]; (try simp (disch := (first | omega | (simp; omega))) only [wrap_i64, wrap_u8, wrap_u32, wrap_u64, Int.tmod_eq_emod_of_nonneg, Int.tdiv_eq_ediv_of_nonneg]); (first | refine acall_pure (awake01_call) (by simp) ?_ | skip); (repeat (refine And.intro (by first | omega | (simp; done) | (simp; omega) | assumption | (intro e9; have e8 := congrArg List.length e9; simp at e8; done) | (intro e9; have e8 := congrArg List.length e9; (try simp only [List.length_map, List.length_append] at e8); rw [List.length_nil] at e8; omega)) ?_)); (first | refine h9 _ _ (arun_slots (by first | (dsimp only [sput, sset]; done) | rfl) ?_) | refine h9 _ _ (arunD_slots' (by first | (dsimp only [sput, sset]; done) | rfl) (by first | (dsimp only [List.tail]; done) | rfl) ?_)); clear h9 K9)
    | (refine arun_end ?_)
    | (refine arunD_end ?_)
    | (refine awp_seq fun K hK => ?_)
    | (refine awp_region ?_)
    | (refine hK _ _ ?_; clear hK K)
    | ((first | refine awp_region_draw' (m := 0) (by decide +kernel) [] (by kernel_rfl) (by decide +kernel) ?_ | refine awp_region_draw' (m := 1) (by decide +kernel) [] (by kernel_rfl) (by decide +kernel) ?_ | refine awp_region_draw' (m := 2) (by decide +kernel) [] (by kernel_rfl) (by decide +kernel) ?_ | refine awp_region_draw' (m := 3) (by decide +kernel) [] (by kernel_rfl) (by decide +kernel) ?_ | refine awp_region_draw' (m := 4) (by decide +kernel) [] (by kernel_rfl) (by decide +kernel) ?_ | refine awp_region_draw' (m := 5) (by decide +kernel) [] (by kernel_rfl) (by decide +kernel) ?_ | refine awp_region_draw' (m := 6) (by decide +kernel) [] (by kernel_rfl) (by decide +kernel) ?_ | refine awp_region_draw' (m := 7) (by decide +kernel) [] (by kernel_rfl) (by decide +kernel) ?_ | refine awp_region_draw' (m := 8) (by decide +kernel) [] (by kernel_rfl) (by decide +kernel) ?_ | refine awp_region_draw' (m := 9) (by decide +kernel) [] (by kernel_rfl) (by decide +kernel) ?_ | refine awp_region_draw' (m := 10) (by decide +kernel) [] (by kernel_rfl) (by decide +kernel) ?_ | refine awp_region_draw' (m := 11) (by decide +kernel) [] (by kernel_rfl) (by decide +kernel) ?_); dsimp only [List.replicate, List.append_nil, List.cons_append, List.nil_append, List.length_cons, List.length_nil])
    | (refine awp_block ?_)
    | (refine awp_cond rfl (fun hcnd => ?_) (fun hcnd => ?_) <;> (try simp at hcnd) <;> (try contradiction) <;> (try (exfalso; omega)))
    | (refine awp_skip ?_)
    | (refine awp_exit ?_; simp only [athen_normal, athen_exit, athen_ret, ablock_self, ablock_ne, ablock_normal, ablock_ret, Nat.reduceBEq])
    | (refine awp_ret ?_; refine ret_go ?_)
    | (refine arun_no ?_ ?_; (focus (simp [h1, h2]; done)); refine arun_slots (by first | (dsimp only [sput, sset]; done) | rfl) ?_)
    | ((first | refine arunD_nF rfl ?_ ?_ | refine arunD_nT rfl ?_ ?_); (focus (simp [h1, h2]; done)); refine arunD_slots' (by first | (dsimp only [sput, sset]; done) | rfl) (by first | (dsimp only [List.tail]; done) | rfl) ?_)
    | ((first | refine arun_go ?_ ?_ | refine arunD_gF rfl ?_ ?_ | refine arunD_gT rfl ?_ ?_); (focus (simp [h1, h2]; done)); intro K9 h9; simp (disch := (first | (simp; done) | omega | (simp; omega))) [h1, h2]; (try simp (disch := (first | omega | (simp; omega))) only [wrap_i64, wrap_u8, wrap_u32, wrap_u64, Int.tmod_eq_emod_of_nonneg, Int.tdiv_eq_ediv_of_nonneg]); (first | refine acall_pure (awake01_call) (by simp) ?_ | skip); (repeat (refine And.intro (by first | omega | (simp; done) | (simp; omega) | assumption | (intro e9; have e8 := congrArg List.length e9; simp at e8; done) | (intro e9; have e8 := congrArg List.length e9; (try simp only [List.length_map, List.length_append] at e8); rw [List.length_nil] at e8; omega)) ?_)); (first | refine h9 _ _ (arun_slots (by first | (dsimp only [sput, sset]; done) | rfl) ?_) | refine h9 _ _ (arunD_slots' (by first | (dsimp only [sput, sset]; done) | rfl) (by first | (dsimp only [List.tail]; done) | rfl) ?_)); clear h9 K9)
    | (refine fall_go ?_)
    | (simp only [athen_normal, athen_exit, athen_ret, ablock_self, ablock_ne, ablock_normal, ablock_ret, Nat.reduceBEq])
    | (clear hK K; refine hK _ _ ?_; clear hK K)
    | (clear hK K; clear hK K; refine hK _ _ ?_; clear hK K)
    | (clear hK K; clear hK K; clear hK K; refine hK _ _ ?_; clear hK K)
    | (clear hK K; clear hK K; clear hK K; clear hK K; refine hK _ _ ?_; clear hK K)
    | (clear hK K; clear hK K; clear hK K; clear hK K; clear hK K; refine hK _ _ ?_; clear hK K))
    simp
    exact .pure .bool
  · repeat' (first
    | ((first | refine arun_go0 rfl fun K9 h9 => ?_ | refine arunD_goF rfl rfl fun K9 h9 => ?_ | refine arunD_goT rfl rfl fun K9 h9 => ?_); simp (disch := (first | (simp; done) | omega | (simp; omega))) [h1, h2]; (try simp (disch := (first | omega | (simp; omega))) only [wrap_i64, wrap_u8, wrap_u32, wrap_u64, Int.tmod_eq_emod_of_nonneg, Int.tdiv_eq_ediv_of_nonneg]); (first | refine acall_pure (hex_call b (by omega)) (by simp) ?_ | skip); (repeat (refine And.intro (by first | omega | (simp; done) | (simp; omega) | assumption | (intro e9; have e8 := congrArg List.length e9; simp at e8; done) | (intro e9; have e8 := congrArg List.length e9; (try simp only [List.length_map, List.length_append] at e8); rw [List.length_nil] at e8; omega)) ?_)); (first | refine h9 _ _ (arun_slots (by first | (dsimp only [sput, sset]; done) | rfl) ?_) | refine h9 _ _ (arunD_slots' (by first | (dsimp only [sput, sset]; done) | rfl) (by first | (dsimp only [List.tail]; done) | rfl) ?_)); clear h9 K9)
    | (refine arun_end ?_)
    | (refine arunD_end ?_)
    | (refine awp_seq fun K hK => ?_)
    | (refine awp_region ?_)
    | (refine hK _ _ ?_; clear hK K)
    | ((first | refine awp_region_draw' (m := 0) (by decide +kernel) [] (by kernel_rfl) (by decide +kernel) ?_ | refine awp_region_draw' (m := 1) (by decide +kernel) [] (by kernel_rfl) (by decide +kernel) ?_ | refine awp_region_draw' (m := 2) (by decide +kernel) [] (by kernel_rfl) (by decide +kernel) ?_ | refine awp_region_draw' (m := 3) (by decide +kernel) [] (by kernel_rfl) (by decide +kernel) ?_ | refine awp_region_draw' (m := 4) (by decide +kernel) [] (by kernel_rfl) (by decide +kernel) ?_ | refine awp_region_draw' (m := 5) (by decide +kernel) [] (by kernel_rfl) (by decide +kernel) ?_ | refine awp_region_draw' (m := 6) (by decide +kernel) [] (by kernel_rfl) (by decide +kernel) ?_ | refine awp_region_draw' (m := 7) (by decide +kernel) [] (by kernel_rfl) (by decide +kernel) ?_ | refine awp_region_draw' (m := 8) (by decide +kernel) [] (by kernel_rfl) (by decide +kernel) ?_ | refine awp_region_draw' (m := 9) (by decide +kernel) [] (by kernel_rfl) (by decide +kernel) ?_ | refine awp_region_draw' (m := 10) (by decide +kernel) [] (by kernel_rfl) (by decide +kernel) ?_ | refine awp_region_draw' (m := 11) (by decide +kernel) [] (by kernel_rfl) (by decide +kernel) ?_); dsimp only [List.replicate, List.append_nil, List.cons_append, List.nil_append, List.length_cons, List.length_nil])
    | (refine awp_block ?_)
    | (refine awp_cond rfl (fun hcnd => ?_) (fun hcnd => ?_) <;> (try simp at hcnd) <;> (try contradiction) <;> (try (exfalso; omega)))
    | (refine awp_skip ?_)
    | (refine awp_exit ?_; simp only [athen_normal, athen_exit, athen_ret, ablock_self, ablock_ne, ablock_normal, ablock_ret, Nat.reduceBEq])
    | (refine awp_ret ?_; refine ret_go ?_)
    | (refine arun_no ?_ ?_; (focus (simp [h1, h2]; done)); refine arun_slots (by first | (dsimp only [sput, sset]; done) | rfl) ?_)
    | ((first | refine arunD_nF rfl ?_ ?_ | refine arunD_nT rfl ?_ ?_); (focus (simp [h1, h2]; done)); refine arunD_slots' (by first | (dsimp only [sput, sset]; done) | rfl) (by first | (dsimp only [List.tail]; done) | rfl) ?_)
    | ((first | refine arun_go ?_ ?_ | refine arunD_gF rfl ?_ ?_ | refine arunD_gT rfl ?_ ?_); (focus (simp [h1, h2]; done)); intro K9 h9; simp (disch := (first | (simp; done) | omega | (simp; omega))) [h1, h2]; (try simp (disch := (first | omega | (simp; omega))) only [wrap_i64, wrap_u8, wrap_u32, wrap_u64, Int.tmod_eq_emod_of_nonneg, Int.tdiv_eq_ediv_of_nonneg]); (first | refine acall_pure (hex_call b (by omega)) (by simp) ?_ | skip); (repeat (refine And.intro (by first | omega | (simp; done) | (simp; omega) | assumption | (intro e9; have e8 := congrArg List.length e9; simp at e8; done) | (intro e9; have e8 := congrArg List.length e9; (try simp only [List.length_map, List.length_append] at e8); rw [List.length_nil] at e8; omega)) ?_)); (first | refine h9 _ _ (arun_slots (by first | (dsimp only [sput, sset]; done) | rfl) ?_) | refine h9 _ _ (arunD_slots' (by first | (dsimp only [sput, sset]; done) | rfl) (by first | (dsimp only [List.tail]; done) | rfl) ?_)); clear h9 K9)
    | (refine fall_go ?_)
    | (simp only [athen_normal, athen_exit, athen_ret, ablock_self, ablock_ne, ablock_normal, ablock_ret, Nat.reduceBEq])
    | (clear hK K; refine hK _ _ ?_; clear hK K)
    | (clear hK K; clear hK K; refine hK _ _ ?_; clear hK K)
    | (clear hK K; clear hK K; clear hK K; refine hK _ _ ?_; clear hK K)
    | (clear hK K; clear hK K; clear hK K; clear hK K; refine hK _ _ ?_; clear hK K)
    | (clear hK K; clear hK K; clear hK K; clear hK K; clear hK K; refine hK _ _ ?_; clear hK K))
    obtain ⟨L, hL3⟩ : ∃ L : List (List UInt8), L = [s, b, hexS b] := ⟨_, rfl⟩
    have hLl : L.length = 3 := by simp [hL3]
    have hLm : ∀ x ∈ L, x.length ≤ 800 := by
      intro x hx
      simp [hL3] at hx
      rcases hx with rfl | rfl | rfl
      · omega
      · omega
      · rw [hexS_length]; omega
    refine awp_countU (fun i => (some V.junk :: some V.junk :: none :: none :: some V.junk :: none :: some V.junk :: some V.junk :: some V.junk :: some V.junk :: some V.junk :: some V.junk :: some V.junk :: some V.junk :: some V.junk :: some V.junk :: some V.junk :: some V.junk :: some V.junk :: some V.junk :: some V.junk :: some V.junk :: some V.junk :: some V.junk :: none :: none :: some (V.int .i64 i) :: some V.junk :: some V.junk :: some V.junk :: some V.junk :: some V.junk :: some V.junk :: some V.junk :: some V.junk :: some V.junk :: some V.junk :: some V.junk :: some V.junk :: some V.junk :: some V.junk :: some V.junk :: some V.junk :: some V.junk :: some V.junk :: some V.junk :: some V.junk :: some V.junk :: some V.junk :: some V.junk :: some V.junk :: some V.junk :: some V.junk :: some V.junk :: some V.junk :: some V.junk :: some V.junk :: some V.junk :: some V.junk :: some V.junk :: some V.junk :: some V.junk :: some V.junk :: some V.junk :: some V.junk :: some V.junk :: [])) (fun i => [.live (L.map V.str)]) 3 ?_ fun i hi KL hL => ?_
    · dsimp only [ups_some, ups_none, ups_nil, ups_nil']
      exact Le.mk [some 0] (by simp) (rowsRen_of (by simp) (by simp [rowsOver, hL3])) (by simp)
    dsimp only [ups_some, ups_none, ups_nil, ups_nil']
    rcases Nat.lt_or_ge i 3 with hi | hi
    · have hiL : i < L.length := by omega
      have hx := hLm L[i] (List.getElem_mem _)
      generalize hX : L[i] = x at *
      by_cases hok : okH x = true
      · have hd : unhexV x = .tup [.str (decH x (x.length / 2)), .bool true] := by rw [unhexV, if_pos hok]
        have hinv := hexS_unhex x hok
        have hdl : (decH x (x.length / 2)).length = x.length / 2 := decH_length _ _
        repeat' (first
    | ((first | refine arun_go0 rfl fun K9 h9 => ?_ | refine arunD_goF rfl rfl fun K9 h9 => ?_ | refine arunD_goT rfl rfl fun K9 h9 => ?_); simp (disch := (first | (simp; done) | omega | (simp; omega))) [hLl, hX, hd, hinv]; (try simp (disch := (first | omega | (simp; omega))) only [wrap_i64, wrap_u8, wrap_u32, wrap_u64, Int.tmod_eq_emod_of_nonneg, Int.tdiv_eq_ediv_of_nonneg]); (first | refine acall_pure (unhex_call x (by omega)) (by simp) ?_ | refine acall_pure (runhex_call x (by omega)) (by simp) ?_ | refine acall_pure (hex_call x (by omega)) (by simp) ?_ | refine acall_pure (rhex_call x (by omega)) (by simp) ?_ | refine acall_pure (hex_call _ (by omega)) (by simp) ?_ | skip); (repeat (refine And.intro (by first | omega | (simp; done) | (simp; omega) | assumption | (intro e9; have e8 := congrArg List.length e9; simp at e8; done) | (intro e9; have e8 := congrArg List.length e9; (try simp only [List.length_map, List.length_append] at e8); rw [List.length_nil] at e8; omega)) ?_)); (first | refine h9 _ _ (arun_slots (by first | (dsimp only [sput, sset]; done) | rfl) ?_) | refine h9 _ _ (arunD_slots' (by first | (dsimp only [sput, sset]; done) | rfl) (by first | (dsimp only [List.tail]; done) | rfl) ?_)); clear h9 K9)
    | (refine arun_end ?_)
    | (refine arunD_end ?_)
    | (refine awp_seq fun K hK => ?_)
    | (refine awp_region ?_)
    | (refine hK _ _ ?_; clear hK K)
    | ((first | refine awp_region_draw' (m := 0) (by decide +kernel) [] (by kernel_rfl) (by decide +kernel) ?_ | refine awp_region_draw' (m := 1) (by decide +kernel) [] (by kernel_rfl) (by decide +kernel) ?_ | refine awp_region_draw' (m := 2) (by decide +kernel) [] (by kernel_rfl) (by decide +kernel) ?_ | refine awp_region_draw' (m := 3) (by decide +kernel) [] (by kernel_rfl) (by decide +kernel) ?_ | refine awp_region_draw' (m := 4) (by decide +kernel) [] (by kernel_rfl) (by decide +kernel) ?_ | refine awp_region_draw' (m := 5) (by decide +kernel) [] (by kernel_rfl) (by decide +kernel) ?_ | refine awp_region_draw' (m := 6) (by decide +kernel) [] (by kernel_rfl) (by decide +kernel) ?_ | refine awp_region_draw' (m := 7) (by decide +kernel) [] (by kernel_rfl) (by decide +kernel) ?_ | refine awp_region_draw' (m := 8) (by decide +kernel) [] (by kernel_rfl) (by decide +kernel) ?_ | refine awp_region_draw' (m := 9) (by decide +kernel) [] (by kernel_rfl) (by decide +kernel) ?_ | refine awp_region_draw' (m := 10) (by decide +kernel) [] (by kernel_rfl) (by decide +kernel) ?_ | refine awp_region_draw' (m := 11) (by decide +kernel) [] (by kernel_rfl) (by decide +kernel) ?_); dsimp only [List.replicate, List.append_nil, List.cons_append, List.nil_append, List.length_cons, List.length_nil])
    | (refine awp_block ?_)
    | (refine awp_cond rfl (fun hcnd => ?_) (fun hcnd => ?_) <;> (try simp at hcnd) <;> (try contradiction) <;> (try (exfalso; omega)))
    | (refine awp_skip ?_)
    | (refine awp_exit ?_; simp only [athen_normal, athen_exit, athen_ret, ablock_self, ablock_ne, ablock_normal, ablock_ret, Nat.reduceBEq])
    | (refine awp_ret ?_; refine ret_go ?_)
    | (refine arun_no ?_ ?_; (focus (simp [hLl, hX, hd, hinv]; done)); refine arun_slots (by first | (dsimp only [sput, sset]; done) | rfl) ?_)
    | ((first | refine arunD_nF rfl ?_ ?_ | refine arunD_nT rfl ?_ ?_); (focus (simp [hLl, hX, hd, hinv]; done)); refine arunD_slots' (by first | (dsimp only [sput, sset]; done) | rfl) (by first | (dsimp only [List.tail]; done) | rfl) ?_)
    | ((first | refine arun_go ?_ ?_ | refine arunD_gF rfl ?_ ?_ | refine arunD_gT rfl ?_ ?_); (focus (simp [hLl, hX, hd, hinv]; done)); intro K9 h9; simp (disch := (first | (simp; done) | omega | (simp; omega))) [hLl, hX, hd, hinv]; (try simp (disch := (first | omega | (simp; omega))) only [wrap_i64, wrap_u8, wrap_u32, wrap_u64, Int.tmod_eq_emod_of_nonneg, Int.tdiv_eq_ediv_of_nonneg]); (first | refine acall_pure (unhex_call x (by omega)) (by simp) ?_ | refine acall_pure (runhex_call x (by omega)) (by simp) ?_ | refine acall_pure (hex_call x (by omega)) (by simp) ?_ | refine acall_pure (rhex_call x (by omega)) (by simp) ?_ | refine acall_pure (hex_call _ (by omega)) (by simp) ?_ | skip); (repeat (refine And.intro (by first | omega | (simp; done) | (simp; omega) | assumption | (intro e9; have e8 := congrArg List.length e9; simp at e8; done) | (intro e9; have e8 := congrArg List.length e9; (try simp only [List.length_map, List.length_append] at e8); rw [List.length_nil] at e8; omega)) ?_)); (first | refine h9 _ _ (arun_slots (by first | (dsimp only [sput, sset]; done) | rfl) ?_) | refine h9 _ _ (arunD_slots' (by first | (dsimp only [sput, sset]; done) | rfl) (by first | (dsimp only [List.tail]; done) | rfl) ?_)); clear h9 K9)
    | (refine fall_go ?_)
    | (simp only [athen_normal, athen_exit, athen_ret, ablock_self, ablock_ne, ablock_normal, ablock_ret, Nat.reduceBEq])
    | (clear hK K; refine hK _ _ ?_; clear hK K)
    | (clear hK K; clear hK K; refine hK _ _ ?_; clear hK K)
    | (clear hK K; clear hK K; clear hK K; refine hK _ _ ?_; clear hK K)
    | (clear hK K; clear hK K; clear hK K; clear hK K; refine hK _ _ ?_; clear hK K)
    | (clear hK K; clear hK K; clear hK K; clear hK K; clear hK K; refine hK _ _ ?_; clear hK K))
        refine hL _ _ hi ?_
        exact Le.mk [some 0] (by dsimp only [ups_some, ups_none, ups_nil, ups_nil']; simp) (rowsRen_of (by simp) (by simp [rowsOver])) (by simp)
      · have hd : unhexV x = .tup [.str [], .bool false] := by rw [unhexV, if_neg hok]
        repeat' (first
    | ((first | refine arun_go0 rfl fun K9 h9 => ?_ | refine arunD_goF rfl rfl fun K9 h9 => ?_ | refine arunD_goT rfl rfl fun K9 h9 => ?_); simp (disch := (first | (simp; done) | omega | (simp; omega))) [hLl, hX, hd]; (try simp (disch := (first | omega | (simp; omega))) only [wrap_i64, wrap_u8, wrap_u32, wrap_u64, Int.tmod_eq_emod_of_nonneg, Int.tdiv_eq_ediv_of_nonneg]); (first | refine acall_pure (unhex_call x (by omega)) (by simp) ?_ | refine acall_pure (runhex_call x (by omega)) (by simp) ?_ | refine acall_pure (hex_call x (by omega)) (by simp) ?_ | refine acall_pure (rhex_call x (by omega)) (by simp) ?_ | skip); (repeat (refine And.intro (by first | omega | (simp; done) | (simp; omega) | assumption | (intro e9; have e8 := congrArg List.length e9; simp at e8; done) | (intro e9; have e8 := congrArg List.length e9; (try simp only [List.length_map, List.length_append] at e8); rw [List.length_nil] at e8; omega)) ?_)); (first | refine h9 _ _ (arun_slots (by first | (dsimp only [sput, sset]; done) | rfl) ?_) | refine h9 _ _ (arunD_slots' (by first | (dsimp only [sput, sset]; done) | rfl) (by first | (dsimp only [List.tail]; done) | rfl) ?_)); clear h9 K9)
    | (refine arun_end ?_)
    | (refine arunD_end ?_)
    | (refine awp_seq fun K hK => ?_)
    | (refine awp_region ?_)
    | (refine hK _ _ ?_; clear hK K)
    | ((first | refine awp_region_draw' (m := 0) (by decide +kernel) [] (by kernel_rfl) (by decide +kernel) ?_ | refine awp_region_draw' (m := 1) (by decide +kernel) [] (by kernel_rfl) (by decide +kernel) ?_ | refine awp_region_draw' (m := 2) (by decide +kernel) [] (by kernel_rfl) (by decide +kernel) ?_ | refine awp_region_draw' (m := 3) (by decide +kernel) [] (by kernel_rfl) (by decide +kernel) ?_ | refine awp_region_draw' (m := 4) (by decide +kernel) [] (by kernel_rfl) (by decide +kernel) ?_ | refine awp_region_draw' (m := 5) (by decide +kernel) [] (by kernel_rfl) (by decide +kernel) ?_ | refine awp_region_draw' (m := 6) (by decide +kernel) [] (by kernel_rfl) (by decide +kernel) ?_ | refine awp_region_draw' (m := 7) (by decide +kernel) [] (by kernel_rfl) (by decide +kernel) ?_ | refine awp_region_draw' (m := 8) (by decide +kernel) [] (by kernel_rfl) (by decide +kernel) ?_ | refine awp_region_draw' (m := 9) (by decide +kernel) [] (by kernel_rfl) (by decide +kernel) ?_ | refine awp_region_draw' (m := 10) (by decide +kernel) [] (by kernel_rfl) (by decide +kernel) ?_ | refine awp_region_draw' (m := 11) (by decide +kernel) [] (by kernel_rfl) (by decide +kernel) ?_); dsimp only [List.replicate, List.append_nil, List.cons_append, List.nil_append, List.length_cons, List.length_nil])
    | (refine awp_block ?_)
    | (refine awp_cond rfl (fun hcnd => ?_) (fun hcnd => ?_) <;> (try simp at hcnd) <;> (try contradiction) <;> (try (exfalso; omega)))
    | (refine awp_skip ?_)
    | (refine awp_exit ?_; simp only [athen_normal, athen_exit, athen_ret, ablock_self, ablock_ne, ablock_normal, ablock_ret, Nat.reduceBEq])
    | (refine awp_ret ?_; refine ret_go ?_)
    | (refine arun_no ?_ ?_; (focus (simp [hLl, hX, hd]; done)); refine arun_slots (by first | (dsimp only [sput, sset]; done) | rfl) ?_)
    | ((first | refine arunD_nF rfl ?_ ?_ | refine arunD_nT rfl ?_ ?_); (focus (simp [hLl, hX, hd]; done)); refine arunD_slots' (by first | (dsimp only [sput, sset]; done) | rfl) (by first | (dsimp only [List.tail]; done) | rfl) ?_)
    | ((first | refine arun_go ?_ ?_ | refine arunD_gF rfl ?_ ?_ | refine arunD_gT rfl ?_ ?_); (focus (simp [hLl, hX, hd]; done)); intro K9 h9; simp (disch := (first | (simp; done) | omega | (simp; omega))) [hLl, hX, hd]; (try simp (disch := (first | omega | (simp; omega))) only [wrap_i64, wrap_u8, wrap_u32, wrap_u64, Int.tmod_eq_emod_of_nonneg, Int.tdiv_eq_ediv_of_nonneg]); (first | refine acall_pure (unhex_call x (by omega)) (by simp) ?_ | refine acall_pure (runhex_call x (by omega)) (by simp) ?_ | refine acall_pure (hex_call x (by omega)) (by simp) ?_ | refine acall_pure (rhex_call x (by omega)) (by simp) ?_ | skip); (repeat (refine And.intro (by first | omega | (simp; done) | (simp; omega) | assumption | (intro e9; have e8 := congrArg List.length e9; simp at e8; done) | (intro e9; have e8 := congrArg List.length e9; (try simp only [List.length_map, List.length_append] at e8); rw [List.length_nil] at e8; omega)) ?_)); (first | refine h9 _ _ (arun_slots (by first | (dsimp only [sput, sset]; done) | rfl) ?_) | refine h9 _ _ (arunD_slots' (by first | (dsimp only [sput, sset]; done) | rfl) (by first | (dsimp only [List.tail]; done) | rfl) ?_)); clear h9 K9)
    | (refine fall_go ?_)
    | (simp only [athen_normal, athen_exit, athen_ret, ablock_self, ablock_ne, ablock_normal, ablock_ret, Nat.reduceBEq])
    | (clear hK K; refine hK _ _ ?_; clear hK K)
    | (clear hK K; clear hK K; refine hK _ _ ?_; clear hK K)
    | (clear hK K; clear hK K; clear hK K; refine hK _ _ ?_; clear hK K)
    | (clear hK K; clear hK K; clear hK K; clear hK K; refine hK _ _ ?_; clear hK K)
    | (clear hK K; clear hK K; clear hK K; clear hK K; clear hK K; refine hK _ _ ?_; clear hK K))
        refine hL _ _ hi ?_
        exact Le.mk [some 0] (by dsimp only [ups_some, ups_none, ups_nil, ups_nil']; simp) (rowsRen_of (by simp) (by simp [rowsOver])) (by simp)
    obtain rfl : i = 3 := by omega
    repeat' (first
    | ((first | refine arun_go0 rfl fun K9 h9 => ?_ | refine arunD_goF rfl rfl fun K9 h9 => ?_ | refine arunD_goT rfl rfl fun K9 h9 => ?_); simp (disch := (first | (simp; done) | omega | (simp; omega))) ; (try simp (disch := (first | omega | (simp; omega))) only [wrap_i64, wrap_u8, wrap_u32, wrap_u64, Int.tmod_eq_emod_of_nonneg, Int.tdiv_eq_ediv_of_nonneg]); (first | refine acall_pure (awake01_call) (by simp) ?_ | skip); (repeat (refine And.intro (by first | omega | (simp; done) | (simp; omega) | assumption | (intro e9; have e8 := congrArg List.length e9; simp at e8; done) | (intro e9; have e8 := congrArg List.length e9; (try simp only [List.length_map, List.length_append] at e8); rw [List.length_nil] at e8; omega)) ?_)); (first | refine h9 _ _ (arun_slots (by first | (dsimp only [sput, sset]; done) | rfl) ?_) | refine h9 _ _ (arunD_slots' (by first | (dsimp only [sput, sset]; done) | rfl) (by first | (dsimp only [List.tail]; done) | rfl) ?_)); clear h9 K9)
    | (refine arun_end ?_)
    | (refine arunD_end ?_)
    | (refine awp_seq fun K hK => ?_)
    | (refine awp_region ?_)
    | (refine hK _ _ ?_; clear hK K)
    | ((first | refine awp_region_draw' (m := 0) (by decide +kernel) [] (by kernel_rfl) (by decide +kernel) ?_ | refine awp_region_draw' (m := 1) (by decide +kernel) [] (by kernel_rfl) (by decide +kernel) ?_ | refine awp_region_draw' (m := 2) (by decide +kernel) [] (by kernel_rfl) (by decide +kernel) ?_ | refine awp_region_draw' (m := 3) (by decide +kernel) [] (by kernel_rfl) (by decide +kernel) ?_ | refine awp_region_draw' (m := 4) (by decide +kernel) [] (by kernel_rfl) (by decide +kernel) ?_ | refine awp_region_draw' (m := 5) (by decide +kernel) [] (by kernel_rfl) (by decide +kernel) ?_ | refine awp_region_draw' (m := 6) (by decide +kernel) [] (by kernel_rfl) (by decide +kernel) ?_ | refine awp_region_draw' (m := 7) (by decide +kernel) [] (by kernel_rfl) (by decide +kernel) ?_ | refine awp_region_draw' (m := 8) (by decide +kernel) [] (by kernel_rfl) (by decide +kernel) ?_ | refine awp_region_draw' (m := 9) (by decide +kernel) [] (by kernel_rfl) (by decide +kernel) ?_ | refine awp_region_draw' (m := 10) (by decide +kernel) [] (by kernel_rfl) (by decide +kernel) ?_ | refine awp_region_draw' (m := 11) (by decide +kernel) [] (by kernel_rfl) (by decide +kernel) ?_); dsimp only [List.replicate, List.append_nil, List.cons_append, List.nil_append, List.length_cons, List.length_nil])
    | (refine awp_block ?_)
    | (refine awp_cond rfl (fun hcnd => ?_) (fun hcnd => ?_) <;> (try simp at hcnd) <;> (try contradiction) <;> (try (exfalso; omega)))
    | (refine awp_skip ?_)
    | (refine awp_exit ?_; simp only [athen_normal, athen_exit, athen_ret, ablock_self, ablock_ne, ablock_normal, ablock_ret, Nat.reduceBEq])
    | (refine awp_ret ?_; refine ret_go ?_)
    | (refine arun_no ?_ ?_; (focus (simp ; done)); refine arun_slots (by first | (dsimp only [sput, sset]; done) | rfl) ?_)
    | ((first | refine arunD_nF rfl ?_ ?_ | refine arunD_nT rfl ?_ ?_); (focus (simp ; done)); refine arunD_slots' (by first | (dsimp only [sput, sset]; done) | rfl) (by first | (dsimp only [List.tail]; done) | rfl) ?_)
    | ((first | refine arun_go ?_ ?_ | refine arunD_gF rfl ?_ ?_ | refine arunD_gT rfl ?_ ?_); (focus (simp ; done)); intro K9 h9; simp (disch := (first | (simp; done) | omega | (simp; omega))) ; (try simp (disch := (first | omega | (simp; omega))) only [wrap_i64, wrap_u8, wrap_u32, wrap_u64, Int.tmod_eq_emod_of_nonneg, Int.tdiv_eq_ediv_of_nonneg]); (first | refine acall_pure (awake01_call) (by simp) ?_ | skip); (repeat (refine And.intro (by first | omega | (simp; done) | (simp; omega) | assumption | (intro e9; have e8 := congrArg List.length e9; simp at e8; done) | (intro e9; have e8 := congrArg List.length e9; (try simp only [List.length_map, List.length_append] at e8); rw [List.length_nil] at e8; omega)) ?_)); (first | refine h9 _ _ (arun_slots (by first | (dsimp only [sput, sset]; done) | rfl) ?_) | refine h9 _ _ (arunD_slots' (by first | (dsimp only [sput, sset]; done) | rfl) (by first | (dsimp only [List.tail]; done) | rfl) ?_)); clear h9 K9)
    | (refine fall_go ?_)
    | (simp only [athen_normal, athen_exit, athen_ret, ablock_self, ablock_ne, ablock_normal, ablock_ret, Nat.reduceBEq])
    | (clear hK K; refine hK _ _ ?_; clear hK K)
    | (clear hK K; clear hK K; refine hK _ _ ?_; clear hK K)
    | (clear hK K; clear hK K; clear hK K; refine hK _ _ ?_; clear hK K)
    | (clear hK K; clear hK K; clear hK K; clear hK K; refine hK _ _ ?_; clear hK K)
    | (clear hK K; clear hK K; clear hK K; clear hK K; clear hK K; refine hK _ _ ?_; clear hK K))
    simp
    exact .pure .bool
  · exact .bool

theorem hashHex_fits : ∀ xs, FitsAll Try.prog 8 Try.f9.params.toList xs → PCall Try.prog 9 xs (.bool true) := by
  intro xs h
  rw [show Try.f9.params.toList = [9, 9] by kernel_rfl] at h
  obtain ⟨x1, xs, rfl, h1, h⟩ := fitsAll_cons h
  obtain ⟨x2, xs, rfl, h2, h⟩ := fitsAll_cons h
  obtain rfl := fitsAll_nil h
  obtain ⟨b, hb, rfl⟩ := fits_str (by kernel_rfl) h1
  obtain ⟨s, hs, rfl⟩ := fits_str (by kernel_rfl) h2
  exact hashHex_call b s hb hs
end Go.Proofs.Ytllehihgfbkgpaa
