/-
  STEP: Leave.
  STEP: Leave, where the checks are passed.
  STEP: certificates on an empty deck; the examples of the chapter.
  STEP: the examples of the chapter.
  Conditions: none.
-/
import Derived.Test.YtjlifjmjnhdcmaaGl
namespace Go.Stp
open Go.VS
def decS (n : Int) : Int := if 0 < n then n - 1 else n
def fallS (self : Bool) (n : Int) : Int := if self then n else decS n
def zeroPg : Pg := ⟨[], ⟨0, [], []⟩, false, 0, 0, 0, 0, []⟩
def leaveP (s : Pg) (c : Ce) : Pg :=
  { issuer := c.subject, key := c.key, lists := decide (c.info.usage = 0) || (bits .and .i64 c.info.usage 64 != 0), len := leastS (if selfB c then s.len else s.len - 1) c.info.plen,
    expl := leastS (fallS (selfB c) s.expl) c.info.rexp, map := leastS (fallS (selfB c) s.map) c.info.imap, any := leastS (fallS (selfB c) s.any) c.info.iany, names := if c.info.hasC then s.names ++ [c.info.cons] else s.names }
/-- Which check fails; 0: none. -/
def leaveK (s : Pg) (c : Ce) : Int := if c.info.maps.any specB then 8 else if c.info.ca = false then 9 else if selfB c = false ∧ s.len < 1 then 10 else if c.info.usage ≠ 0 ∧ bits .and .i64 c.info.usage 32 = 0 then 11 else 0
def leaveS (s : Pg) (c : Ce) : Pg := if leaveK s c = 0 then leaveP s c else zeroPg
def I64 (n : Int) : Prop := -9223372036854775808 ≤ n ∧ n ≤ 9223372036854775807
structure WLv (s : Pg) (c : Ce) : Prop where
  sub : WN c.subject
  iss : WN c.issuer
  maps : c.info.maps.length ≤ 65536
  names : WSs s.names
  few : s.names.length ≤ 60000
  cons : WS c.info.cons
  len : I64 s.len
  expl : I64 s.expl
  map : I64 s.map
  any : I64 s.any
end Go.Stp
namespace Go.Proofs.Ytjlifjmjnhdcmaa
open Go.VS Go.Stp
set_option linter.all false
set_option maxRecDepth 100000
set_option maxHeartbeats 8000000
attribute [local irreducible] arun arunD arunU AWp aend bits


theorem leave_early (s : Pg) (c : Ce) (w : WLv s c) (h : leaveK s c ≠ 0) : PCall Try.prog 23 [.agg s.c, .agg c.c] (.tup [.agg zeroPg.c, .int .i64 (leaveK s c)]) := by
  refine pcall_nzt (r := .tup [.agg [.nils, .int .i64 0, .str [], .str [], .bool false, .int .i64 0, .int .i64 0, .int .i64 0, .int .i64 0, .nils], .int .i64 (leaveK s c)]) ?_ rfl (by simp)
  have h1 := self_call c w.iss w.sub
  have h2 := mcontains_call c.info.maps w.maps
  have hl := w.len
  unfold I64 at hl
  unfold leaveK at *
  rw [Pg.c.eq_1, Ce.c.eq_1] at *
  generalize selfB c = B at *
  generalize c.info.maps.any specB = M at *
  refine pcall_body Try.func23 rfl Try.call23 ?_ ?_
  rotate_left 1
  refine awp_slots (s' := ((.agg [nmV s.issuer, .int .i64 s.key.h, .str s.key.id, .str s.key.root, .bool s.lists, .int .i64 s.len, .int .i64 s.expl, .int .i64 s.map, .int .i64 s.any, sbsV s.names] : V) :: (.agg [.str c.raw, .str c.tbs, .int .i64 c.serial, nmV c.issuer, nmV c.subject, .int .i64 c.nb, .int .i64 c.na, .int .i64 c.key.h, .str c.key.id, .str c.key.root, .bool c.info.basic, .bool c.info.ca, .int .i64 c.info.plen, .int .i64 c.info.usage, strV c.info.purposes, strV c.info.policies, mpsV c.info.maps, .int .i64 c.info.rexp, .int .i64 c.info.imap, .int .i64 c.info.iany, gnsV c.info.names, .bool c.info.hasC, gnsV c.info.cons.p, gnsV c.info.cons.x, .str c.info.sk, .str c.info.ak, ptsV c.info.points, ptsV c.info.fresh, exsV c.info.unk, .str c.sig] : V) :: V.junk :: V.junk :: V.junk :: V.junk :: V.junk :: V.junk :: V.junk :: V.junk :: V.junk :: V.junk :: V.junk :: V.junk :: V.junk :: V.junk :: V.junk :: V.junk :: V.junk :: V.junk :: V.junk :: V.junk :: V.junk :: V.junk :: V.junk :: V.junk :: V.junk :: V.junk :: V.junk :: V.junk :: V.junk :: V.junk :: V.junk :: V.junk :: V.junk :: V.junk :: V.junk :: V.junk :: V.junk :: V.junk :: V.junk :: V.junk :: V.junk :: V.junk :: V.junk :: V.junk :: V.junk :: V.junk :: V.junk :: V.junk :: V.junk :: V.junk :: V.junk :: V.junk :: V.junk :: V.junk :: V.junk :: V.junk :: V.junk :: V.junk :: V.junk :: V.junk :: V.junk :: V.junk :: V.junk :: V.junk :: V.junk :: V.junk :: V.junk :: V.junk :: V.junk :: V.junk :: V.junk :: V.junk :: V.junk :: V.junk :: V.junk :: V.junk :: V.junk :: V.junk :: V.junk :: V.junk :: V.junk :: V.junk :: V.junk :: V.junk :: V.junk :: V.junk :: V.junk :: V.junk :: V.junk :: V.junk :: V.junk :: V.junk :: V.junk :: V.junk :: V.junk :: V.junk :: V.junk :: V.junk :: V.junk :: V.junk :: V.junk :: V.junk :: V.junk :: V.junk :: V.junk :: V.junk :: V.junk :: V.junk :: V.junk :: V.junk :: V.junk :: V.junk :: V.junk :: V.junk :: V.junk :: V.junk :: V.junk :: V.junk :: V.junk :: V.junk :: V.junk :: V.junk :: V.junk :: V.junk :: V.junk :: V.junk :: V.junk :: V.junk :: V.junk :: V.junk :: V.junk :: V.junk :: V.junk :: [])) rfl ?_
  by_cases hM : M = true
  · subst hM
    rw [if_pos rfl]
    repeat' (first
      | ((first | refine arun_go0 rfl fun K9 h9 => ?_ | refine arunD_goF rfl rfl fun K9 h9 => ?_ | refine arunD_goT rfl rfl fun K9 h9 => ?_ | (refine arun_go ?_ ?_; (focus (simp ; done)); intro K9 h9) | ((first | refine arunD_gF rfl ?_ ?_ | refine arunD_gT rfl ?_ ?_); (focus (simp ; done)); intro K9 h9)); simp (disch := (first | (simp; done) | omega | (simp; omega))) ; (try simp (disch := (first | omega | (simp; omega))) only [wrap_i64, wrap_u8, wrap_u32, wrap_u64, Int.tmod_eq_emod_of_nonneg, Int.tdiv_eq_ediv_of_nonneg]); (first | refine acall_pure (h1) (by simp) ?_ | refine acall_pure (h2) (by simp) ?_ | skip); (repeat (refine And.intro (by first | omega | (simp; first | done | omega) | assumption | (intro e9; have e8 := congrArg List.length e9; first | (simp at e8; done) | ((try simp only [List.length_map, List.length_append] at e8); rw [List.length_nil] at e8; omega))) ?_)); (first | refine h9 _ _ (arun_slots (by first | (dsimp only [sput, sset]; done) | rfl) ?_) | refine h9 _ _ (arunD_slots' (by first | (dsimp only [sput, sset]; done) | rfl) (by first | (dsimp only [List.tail]; done) | rfl) ?_)); clear h9 K9)
      | (refine arun_end ?_)
      | (refine arunD_end ?_)
      | (refine awp_seq fun K hK => ?_)
      | (refine awp_region ?_)
      | (refine hK _ _ ?_; clear hK K)
      | ((first | refine awp_region_draw' (m := 0) (by decide +kernel) [] (by kernel_rfl) (by decide +kernel) ?_); dsimp only [List.replicate, List.append_nil, List.cons_append, List.nil_append, List.length_cons, List.length_nil])
      | (refine awp_block ?_)
      | (refine awp_cond rfl (fun hcnd => ?_) (fun hcnd => ?_) <;> (try simp at hcnd) <;> (try contradiction) <;> (try (exfalso; omega)))
      | (refine awp_skip ?_)
      | (refine awp_exit ?_; simp only [athen_normal, athen_exit, athen_ret, ablock_self, ablock_ne, ablock_normal, ablock_ret, Nat.reduceBEq])
      | (refine awp_ret ?_; refine ret_go ?_)
      | (refine arun_no ?_ ?_; (focus (simp ; done)); refine arun_slots (by first | (dsimp only [sput, sset]; done) | rfl) ?_)
      | ((first | refine arunD_nF rfl ?_ ?_ | refine arunD_nT rfl ?_ ?_); (focus (simp ; done)); refine arunD_slots' (by first | (dsimp only [sput, sset]; done) | rfl) (by first | (dsimp only [List.tail]; done) | rfl) ?_)
      | (refine fall_go ?_)
      | (simp only [athen_normal, athen_exit, athen_ret, ablock_self, ablock_ne, ablock_normal, ablock_ret, Nat.reduceBEq])
      | (clear hK K; refine hK _ _ ?_; clear hK K)
      | (clear hK K; clear hK K; refine hK _ _ ?_; clear hK K)
      | (clear hK K; clear hK K; clear hK K; refine hK _ _ ?_; clear hK K)
      | (clear hK K; clear hK K; clear hK K; clear hK K; refine hK _ _ ?_; clear hK K)
      | (clear hK K; clear hK K; clear hK K; clear hK K; clear hK K; refine hK _ _ ?_; clear hK K))
    simp
    exact .pure (by simp)
  obtain rfl : M = false := by simpa using hM
  rw [if_neg (by simp)] at h ⊢
  by_cases hca : c.info.ca = false
  · rw [if_pos hca]
    rw [hca] at h1
    repeat' (first
      | ((first | refine arun_go0 rfl fun K9 h9 => ?_ | refine arunD_goF rfl rfl fun K9 h9 => ?_ | refine arunD_goT rfl rfl fun K9 h9 => ?_ | (refine arun_go ?_ ?_; (focus (simp [hca]; done)); intro K9 h9) | ((first | refine arunD_gF rfl ?_ ?_ | refine arunD_gT rfl ?_ ?_); (focus (simp [hca]; done)); intro K9 h9)); simp (disch := (first | (simp; done) | omega | (simp; omega))) [hca]; (try simp (disch := (first | omega | (simp; omega))) only [wrap_i64, wrap_u8, wrap_u32, wrap_u64, Int.tmod_eq_emod_of_nonneg, Int.tdiv_eq_ediv_of_nonneg]); (first | refine acall_pure (h1) (by simp) ?_ | refine acall_pure (h2) (by simp) ?_ | skip); (repeat (refine And.intro (by first | omega | (simp; first | done | omega) | assumption | (intro e9; have e8 := congrArg List.length e9; first | (simp at e8; done) | ((try simp only [List.length_map, List.length_append] at e8); rw [List.length_nil] at e8; omega))) ?_)); (first | refine h9 _ _ (arun_slots (by first | (dsimp only [sput, sset]; done) | rfl) ?_) | refine h9 _ _ (arunD_slots' (by first | (dsimp only [sput, sset]; done) | rfl) (by first | (dsimp only [List.tail]; done) | rfl) ?_)); clear h9 K9)
      | (refine arun_end ?_)
      | (refine arunD_end ?_)
      | (refine awp_seq fun K hK => ?_)
      | (refine awp_region ?_)
      | (refine hK _ _ ?_; clear hK K)
      | ((first | refine awp_region_draw' (m := 0) (by decide +kernel) [] (by kernel_rfl) (by decide +kernel) ?_); dsimp only [List.replicate, List.append_nil, List.cons_append, List.nil_append, List.length_cons, List.length_nil])
      | (refine awp_block ?_)
      | (refine awp_cond rfl (fun hcnd => ?_) (fun hcnd => ?_) <;> (try simp at hcnd) <;> (try contradiction) <;> (try (exfalso; omega)))
      | (refine awp_skip ?_)
      | (refine awp_exit ?_; simp only [athen_normal, athen_exit, athen_ret, ablock_self, ablock_ne, ablock_normal, ablock_ret, Nat.reduceBEq])
      | (refine awp_ret ?_; refine ret_go ?_)
      | (refine arun_no ?_ ?_; (focus (simp [hca]; done)); refine arun_slots (by first | (dsimp only [sput, sset]; done) | rfl) ?_)
      | ((first | refine arunD_nF rfl ?_ ?_ | refine arunD_nT rfl ?_ ?_); (focus (simp [hca]; done)); refine arunD_slots' (by first | (dsimp only [sput, sset]; done) | rfl) (by first | (dsimp only [List.tail]; done) | rfl) ?_)
      | (refine fall_go ?_)
      | (simp only [athen_normal, athen_exit, athen_ret, ablock_self, ablock_ne, ablock_normal, ablock_ret, Nat.reduceBEq])
      | (clear hK K; refine hK _ _ ?_; clear hK K)
      | (clear hK K; clear hK K; refine hK _ _ ?_; clear hK K)
      | (clear hK K; clear hK K; clear hK K; refine hK _ _ ?_; clear hK K)
      | (clear hK K; clear hK K; clear hK K; clear hK K; refine hK _ _ ?_; clear hK K)
      | (clear hK K; clear hK K; clear hK K; clear hK K; clear hK K; refine hK _ _ ?_; clear hK K))
    simp
    exact .pure (by simp)
  replace hca : c.info.ca = true := by simpa using hca
  rw [hca, if_neg (by simp)] at h
  rw [hca] at h1
  rw [hca, if_neg (by simp)]
  by_cases hB : B = false ∧ s.len < 1
  · rw [if_pos hB]
    obtain ⟨rfl, hlt⟩ := hB
    repeat' (first
      | ((first | refine arun_go0 rfl fun K9 h9 => ?_ | refine arunD_goF rfl rfl fun K9 h9 => ?_ | refine arunD_goT rfl rfl fun K9 h9 => ?_ | (refine arun_go ?_ ?_; (focus (simp [hca, hlt]; done)); intro K9 h9) | ((first | refine arunD_gF rfl ?_ ?_ | refine arunD_gT rfl ?_ ?_); (focus (simp [hca, hlt]; done)); intro K9 h9)); simp (disch := (first | (simp; done) | omega | (simp; omega))) [hca, hlt]; (try simp (disch := (first | omega | (simp; omega))) only [wrap_i64, wrap_u8, wrap_u32, wrap_u64, Int.tmod_eq_emod_of_nonneg, Int.tdiv_eq_ediv_of_nonneg]); (first | refine acall_pure (h1) (by simp) ?_ | refine acall_pure (h2) (by simp) ?_ | skip); (repeat (refine And.intro (by first | omega | (simp; first | done | omega) | assumption | (intro e9; have e8 := congrArg List.length e9; first | (simp at e8; done) | ((try simp only [List.length_map, List.length_append] at e8); rw [List.length_nil] at e8; omega))) ?_)); (first | refine h9 _ _ (arun_slots (by first | (dsimp only [sput, sset]; done) | rfl) ?_) | refine h9 _ _ (arunD_slots' (by first | (dsimp only [sput, sset]; done) | rfl) (by first | (dsimp only [List.tail]; done) | rfl) ?_)); clear h9 K9)
      | (refine arun_end ?_)
      | (refine arunD_end ?_)
      | (refine awp_seq fun K hK => ?_)
      | (refine awp_region ?_)
      | (refine hK _ _ ?_; clear hK K)
      | ((first | refine awp_region_draw' (m := 0) (by decide +kernel) [] (by kernel_rfl) (by decide +kernel) ?_); dsimp only [List.replicate, List.append_nil, List.cons_append, List.nil_append, List.length_cons, List.length_nil])
      | (refine awp_block ?_)
      | (refine awp_cond rfl (fun hcnd => ?_) (fun hcnd => ?_) <;> (try simp at hcnd) <;> (try contradiction) <;> (try (exfalso; omega)))
      | (refine awp_skip ?_)
      | (refine awp_exit ?_; simp only [athen_normal, athen_exit, athen_ret, ablock_self, ablock_ne, ablock_normal, ablock_ret, Nat.reduceBEq])
      | (refine awp_ret ?_; refine ret_go ?_)
      | (refine arun_no ?_ ?_; (focus (simp [hca, hlt]; done)); refine arun_slots (by first | (dsimp only [sput, sset]; done) | rfl) ?_)
      | ((first | refine arunD_nF rfl ?_ ?_ | refine arunD_nT rfl ?_ ?_); (focus (simp [hca, hlt]; done)); refine arunD_slots' (by first | (dsimp only [sput, sset]; done) | rfl) (by first | (dsimp only [List.tail]; done) | rfl) ?_)
      | (refine fall_go ?_)
      | (simp only [athen_normal, athen_exit, athen_ret, ablock_self, ablock_ne, ablock_normal, ablock_ret, Nat.reduceBEq])
      | (clear hK K; refine hK _ _ ?_; clear hK K)
      | (clear hK K; clear hK K; refine hK _ _ ?_; clear hK K)
      | (clear hK K; clear hK K; clear hK K; refine hK _ _ ?_; clear hK K)
      | (clear hK K; clear hK K; clear hK K; clear hK K; refine hK _ _ ?_; clear hK K)
      | (clear hK K; clear hK K; clear hK K; clear hK K; clear hK K; refine hK _ _ ?_; clear hK K))
    simp
    exact .pure (by simp)
  rw [if_neg hB] at h ⊢
  by_cases hu : c.info.usage ≠ 0 ∧ bits .and .i64 c.info.usage 32 = 0
  · rw [if_pos hu]
    obtain ⟨hu1, hu2⟩ := hu
    cases B
    · have hlt : ¬ s.len < 1 := fun e => hB ⟨rfl, e⟩
      repeat' (first
        | ((first | refine arunU_go0 rfl fun K9 h9 => ?_ | refine arunD_goF rfl rfl fun K9 h9 => ?_ | refine arunD_goT rfl rfl fun K9 h9 => ?_ | (refine arunU_go ?_ ?_; (focus (simp [hca, hlt, hu1, hu2]; done)); intro K9 h9) | ((first | refine arunD_gF rfl ?_ ?_ | refine arunD_gT rfl ?_ ?_); (focus (simp [hca, hlt, hu1, hu2]; done)); intro K9 h9)); simp (disch := (first | (simp; done) | omega | (simp; omega))) [hca, hlt, hu1, hu2]; (try simp (disch := (first | omega | (simp; omega))) only [wrap_i64, wrap_u8, wrap_u32, wrap_u64, Int.tmod_eq_emod_of_nonneg, Int.tdiv_eq_ediv_of_nonneg]); (first | refine acall_pure (h1) (by simp) ?_ | refine acall_pure (h2) (by simp) ?_ | skip); (repeat (refine And.intro (by first | omega | (simp; first | done | omega) | assumption | (intro e9; have e8 := congrArg List.length e9; first | (simp at e8; done) | ((try simp only [List.length_map, List.length_append] at e8); rw [List.length_nil] at e8; omega))) ?_)); (first | refine h9 _ _ (arunU_slots (by first | (dsimp only [sput, sset]; done) | rfl) ?_) | refine h9 _ _ (arunD_slots' (by first | (dsimp only [sput, sset]; done) | rfl) (by first | (dsimp only [List.tail]; done) | rfl) ?_)); clear h9 K9)
        | (refine arunU_end ?_)
        | (refine arunD_end ?_)
        | (refine awp_seq fun K hK => ?_)
        | (refine awp_regionU ?_)
        | (refine hK _ _ ?_; clear hK K)
        | ((first | refine awp_region_draw' (m := 0) (by decide +kernel) [] (by kernel_rfl) (by decide +kernel) ?_); dsimp only [List.replicate, List.append_nil, List.cons_append, List.nil_append, List.length_cons, List.length_nil])
        | (refine awp_block ?_)
        | (refine awp_cond rfl (fun hcnd => ?_) (fun hcnd => ?_) <;> (try simp at hcnd) <;> (try contradiction) <;> (try (exfalso; omega)))
        | (refine awp_skip ?_)
        | (refine awp_exit ?_; simp only [athen_normal, athen_exit, athen_ret, ablock_self, ablock_ne, ablock_normal, ablock_ret, Nat.reduceBEq])
        | (refine awp_ret ?_; refine ret_go ?_)
        | (refine arunU_no ?_ ?_; (focus (simp [hca, hlt, hu1, hu2]; done)); refine arunU_slots (by first | (dsimp only [sput, sset]; done) | rfl) ?_)
        | ((first | refine arunD_nF rfl ?_ ?_ | refine arunD_nT rfl ?_ ?_); (focus (simp [hca, hlt, hu1, hu2]; done)); refine arunD_slots' (by first | (dsimp only [sput, sset]; done) | rfl) (by first | (dsimp only [List.tail]; done) | rfl) ?_)
        | (refine fall_go ?_)
        | (simp only [athen_normal, athen_exit, athen_ret, ablock_self, ablock_ne, ablock_normal, ablock_ret, Nat.reduceBEq])
        | (clear hK K; refine hK _ _ ?_; clear hK K)
        | (clear hK K; clear hK K; refine hK _ _ ?_; clear hK K)
        | (clear hK K; clear hK K; clear hK K; refine hK _ _ ?_; clear hK K)
        | (clear hK K; clear hK K; clear hK K; clear hK K; refine hK _ _ ?_; clear hK K)
        | (clear hK K; clear hK K; clear hK K; clear hK K; clear hK K; refine hK _ _ ?_; clear hK K))
      simp
      exact .pure (by simp)
    · repeat' (first
        | ((first | refine arunU_go0 rfl fun K9 h9 => ?_ | refine arunD_goF rfl rfl fun K9 h9 => ?_ | refine arunD_goT rfl rfl fun K9 h9 => ?_ | (refine arunU_go ?_ ?_; (focus (simp [hca, hu1, hu2]; done)); intro K9 h9) | ((first | refine arunD_gF rfl ?_ ?_ | refine arunD_gT rfl ?_ ?_); (focus (simp [hca, hu1, hu2]; done)); intro K9 h9)); simp (disch := (first | (simp; done) | omega | (simp; omega))) [hca, hu1, hu2]; (try simp (disch := (first | omega | (simp; omega))) only [wrap_i64, wrap_u8, wrap_u32, wrap_u64, Int.tmod_eq_emod_of_nonneg, Int.tdiv_eq_ediv_of_nonneg]); (first | refine acall_pure (h1) (by simp) ?_ | refine acall_pure (h2) (by simp) ?_ | skip); (repeat (refine And.intro (by first | omega | (simp; first | done | omega) | assumption | (intro e9; have e8 := congrArg List.length e9; first | (simp at e8; done) | ((try simp only [List.length_map, List.length_append] at e8); rw [List.length_nil] at e8; omega))) ?_)); (first | refine h9 _ _ (arunU_slots (by first | (dsimp only [sput, sset]; done) | rfl) ?_) | refine h9 _ _ (arunD_slots' (by first | (dsimp only [sput, sset]; done) | rfl) (by first | (dsimp only [List.tail]; done) | rfl) ?_)); clear h9 K9)
        | (refine arunU_end ?_)
        | (refine arunD_end ?_)
        | (refine awp_seq fun K hK => ?_)
        | (refine awp_regionU ?_)
        | (refine hK _ _ ?_; clear hK K)
        | ((first | refine awp_region_draw' (m := 0) (by decide +kernel) [] (by kernel_rfl) (by decide +kernel) ?_); dsimp only [List.replicate, List.append_nil, List.cons_append, List.nil_append, List.length_cons, List.length_nil])
        | (refine awp_block ?_)
        | (refine awp_cond rfl (fun hcnd => ?_) (fun hcnd => ?_) <;> (try simp at hcnd) <;> (try contradiction) <;> (try (exfalso; omega)))
        | (refine awp_skip ?_)
        | (refine awp_exit ?_; simp only [athen_normal, athen_exit, athen_ret, ablock_self, ablock_ne, ablock_normal, ablock_ret, Nat.reduceBEq])
        | (refine awp_ret ?_; refine ret_go ?_)
        | (refine arunU_no ?_ ?_; (focus (simp [hca, hu1, hu2]; done)); refine arunU_slots (by first | (dsimp only [sput, sset]; done) | rfl) ?_)
        | ((first | refine arunD_nF rfl ?_ ?_ | refine arunD_nT rfl ?_ ?_); (focus (simp [hca, hu1, hu2]; done)); refine arunD_slots' (by first | (dsimp only [sput, sset]; done) | rfl) (by first | (dsimp only [List.tail]; done) | rfl) ?_)
        | (refine fall_go ?_)
        | (simp only [athen_normal, athen_exit, athen_ret, ablock_self, ablock_ne, ablock_normal, ablock_ret, Nat.reduceBEq])
        | (clear hK K; refine hK _ _ ?_; clear hK K)
        | (clear hK K; clear hK K; refine hK _ _ ?_; clear hK K)
        | (clear hK K; clear hK K; clear hK K; refine hK _ _ ?_; clear hK K)
        | (clear hK K; clear hK K; clear hK K; clear hK K; refine hK _ _ ?_; clear hK K)
        | (clear hK K; clear hK K; clear hK K; clear hK K; clear hK K; refine hK _ _ ?_; clear hK K))
      simp
      exact .pure (by simp)
  rw [if_neg hu] at h
  exact absurd rfl h
  simp

end Go.Proofs.Ytjlifjmjnhdcmaa
namespace Go.Proofs.Ytjlifjmjnhdcmaa
open Go.VS Go.Stp
set_option linter.all false
set_option maxRecDepth 100000
set_option maxHeartbeats 8000000
attribute [local irreducible] arun arunD arunU AWp aend bits

theorem leave_main (s : Pg) (c : Ce) (w : WLv s c) (h : leaveK s c = 0) : PCall Try.prog 23 [.agg s.c, .agg c.c] (.tup [.agg (leaveP s c).c, .int .i64 0]) := by
  have h1 := self_call c w.iss w.sub
  have h2 := mcontains_call c.info.maps w.maps
  have h3 := cname_call c.subject w.sub
  have h4 := cstate_call s.names w.names
  have h5 := add_call s.names c.info.cons w.few w.names.2 w.cons
  have h6 : PCall Try.prog 51 [.agg [sbsV (s.names ++ [c.info.cons])]] (.agg [sbsV (s.names ++ [c.info.cons])]) := by
    refine cstate_call _ ⟨by have := w.few; simp; omega, fun x hx => ?_⟩
    simp at hx
    rcases hx with hx | rfl
    · exact w.names.2 x hx
    · exact w.cons
  have hl := w.len
  have he := w.expl
  have hmp := w.map
  have han := w.any
  unfold I64 at hl he hmp han
  unfold leaveK at h
  have e : (leaveP s c).c = [nmV c.subject, .int .i64 c.key.h, .str c.key.id, .str c.key.root, .bool (decide (c.info.usage = 0) || (bits .and .i64 c.info.usage 64 != 0)), .int .i64 (leastS (if selfB c then s.len else s.len - 1) c.info.plen), .int .i64 (leastS (fallS (selfB c) s.expl) c.info.rexp), .int .i64 (leastS (fallS (selfB c) s.map) c.info.imap), .int .i64 (leastS (fallS (selfB c) s.any) c.info.iany), sbsV (if c.info.hasC then s.names ++ [c.info.cons] else s.names)] := rfl
  rw [e]
  clear e
  replace h5 : PCall Try.prog 52 [.agg [sbsV s.names], .agg [gnsV c.info.cons.p, gnsV c.info.cons.x]] (.agg [sbsV (s.names ++ [c.info.cons])]) := h5
  rw [Pg.c.eq_1, Ce.c.eq_1] at *
  generalize selfB c = B at *
  generalize c.info.maps.any specB = M at *
  have hM : M = false := by cases M <;> simp at h ⊢
  subst hM
  rw [if_neg (by simp)] at h
  have hca : c.info.ca = true := by
    cases hca : c.info.ca
    · rw [hca] at h; simp at h
    · rfl
  rw [hca, if_neg (by simp)] at h
  by_cases hB : B = false ∧ s.len < 1
  · rw [if_pos hB] at h; simp at h
  rw [if_neg hB] at h
  by_cases hu : c.info.usage ≠ 0 ∧ bits .and .i64 c.info.usage 32 = 0
  · rw [if_pos hu] at h; simp at h
  clear h
  rw [hca] at h1
  obtain ⟨L, hLL⟩ : ∃ L, (decide (c.info.usage = 0) || (bits .and .i64 c.info.usage 64 != 0)) = L := ⟨_, rfl⟩
  obtain ⟨ns, hns⟩ : ∃ ns, (if c.info.hasC = true then s.names ++ [c.info.cons] else s.names) = ns := ⟨_, rfl⟩
  rw [hLL, hca, hns]
  refine pcall_body Try.func23 rfl Try.call23 ?_ ?_
  rotate_left 1
  refine awp_slots (s' := ((.agg [nmV s.issuer, .int .i64 s.key.h, .str s.key.id, .str s.key.root, .bool s.lists, .int .i64 s.len, .int .i64 s.expl, .int .i64 s.map, .int .i64 s.any, sbsV s.names] : V) :: (.agg [.str c.raw, .str c.tbs, .int .i64 c.serial, nmV c.issuer, nmV c.subject, .int .i64 c.nb, .int .i64 c.na, .int .i64 c.key.h, .str c.key.id, .str c.key.root, .bool c.info.basic, .bool true, .int .i64 c.info.plen, .int .i64 c.info.usage, strV c.info.purposes, strV c.info.policies, mpsV c.info.maps, .int .i64 c.info.rexp, .int .i64 c.info.imap, .int .i64 c.info.iany, gnsV c.info.names, .bool c.info.hasC, gnsV c.info.cons.p, gnsV c.info.cons.x, .str c.info.sk, .str c.info.ak, ptsV c.info.points, ptsV c.info.fresh, exsV c.info.unk, .str c.sig] : V) :: V.junk :: V.junk :: V.junk :: V.junk :: V.junk :: V.junk :: V.junk :: V.junk :: V.junk :: V.junk :: V.junk :: V.junk :: V.junk :: V.junk :: V.junk :: V.junk :: V.junk :: V.junk :: V.junk :: V.junk :: V.junk :: V.junk :: V.junk :: V.junk :: V.junk :: V.junk :: V.junk :: V.junk :: V.junk :: V.junk :: V.junk :: V.junk :: V.junk :: V.junk :: V.junk :: V.junk :: V.junk :: V.junk :: V.junk :: V.junk :: V.junk :: V.junk :: V.junk :: V.junk :: V.junk :: V.junk :: V.junk :: V.junk :: V.junk :: V.junk :: V.junk :: V.junk :: V.junk :: V.junk :: V.junk :: V.junk :: V.junk :: V.junk :: V.junk :: V.junk :: V.junk :: V.junk :: V.junk :: V.junk :: V.junk :: V.junk :: V.junk :: V.junk :: V.junk :: V.junk :: V.junk :: V.junk :: V.junk :: V.junk :: V.junk :: V.junk :: V.junk :: V.junk :: V.junk :: V.junk :: V.junk :: V.junk :: V.junk :: V.junk :: V.junk :: V.junk :: V.junk :: V.junk :: V.junk :: V.junk :: V.junk :: V.junk :: V.junk :: V.junk :: V.junk :: V.junk :: V.junk :: V.junk :: V.junk :: V.junk :: V.junk :: V.junk :: V.junk :: V.junk :: V.junk :: V.junk :: V.junk :: V.junk :: V.junk :: V.junk :: V.junk :: V.junk :: V.junk :: V.junk :: V.junk :: V.junk :: V.junk :: V.junk :: V.junk :: V.junk :: V.junk :: V.junk :: V.junk :: V.junk :: V.junk :: V.junk :: V.junk :: V.junk :: V.junk :: V.junk :: V.junk :: V.junk :: V.junk :: [])) rfl ?_
  iterate 20 (first
    | ((first | refine arun_go0 rfl fun K9 h9 => ?_ | refine arunD_goF rfl rfl fun K9 h9 => ?_ | refine arunD_goT rfl rfl fun K9 h9 => ?_ | (refine arun_go ?_ ?_; (focus (simp [hca]; done)); intro K9 h9) | ((first | refine arunD_gF rfl ?_ ?_ | refine arunD_gT rfl ?_ ?_); (focus (simp [hca]; done)); intro K9 h9)); simp (disch := (first | (simp; done) | omega | (simp; omega))) [hca]; (try simp (disch := (first | omega | (simp; omega))) only [wrap_i64, wrap_u8, wrap_u32, wrap_u64, Int.tmod_eq_emod_of_nonneg, Int.tdiv_eq_ediv_of_nonneg]); (first | refine acall_pure (h1) (by simp) ?_ | skip); (repeat (refine And.intro (by first | omega | (simp; first | done | omega) | assumption | (intro e9; have e8 := congrArg List.length e9; first | (simp at e8; done) | ((try simp only [List.length_map, List.length_append] at e8); rw [List.length_nil] at e8; omega))) ?_)); (first | refine h9 _ _ (arun_slots (by first | (dsimp only [sput, sset]; done) | rfl) ?_) | refine h9 _ _ (arunD_slots' (by first | (dsimp only [sput, sset]; done) | rfl) (by first | (dsimp only [List.tail]; done) | rfl) ?_)); clear h9 K9)
    | (refine arun_end ?_)
    | (refine arunD_end ?_)
    | (refine awp_seq fun K hK => ?_)
    | (refine awp_region ?_)
    | (refine hK _ _ ?_; clear hK K)
    | ((first | refine awp_region_draw' (m := 0) (by decide +kernel) [] (by kernel_rfl) (by decide +kernel) ?_); dsimp only [List.replicate, List.append_nil, List.cons_append, List.nil_append, List.length_cons, List.length_nil])
    | (refine awp_block ?_)
    | (refine awp_cond rfl (fun hcnd => ?_) (fun hcnd => ?_) <;> (try simp at hcnd) <;> (try contradiction) <;> (try (exfalso; omega)))
    | (refine awp_skip ?_)
    | (refine awp_exit ?_; simp only [athen_normal, athen_exit, athen_ret, ablock_self, ablock_ne, ablock_normal, ablock_ret, Nat.reduceBEq])
    | (refine awp_ret ?_; refine ret_go ?_)
    | (refine arun_no ?_ ?_; (focus (simp [hca]; done)); refine arun_slots (by first | (dsimp only [sput, sset]; done) | rfl) ?_)
    | ((first | refine arunD_nF rfl ?_ ?_ | refine arunD_nT rfl ?_ ?_); (focus (simp [hca]; done)); refine arunD_slots' (by first | (dsimp only [sput, sset]; done) | rfl) (by first | (dsimp only [List.tail]; done) | rfl) ?_)
    | (refine fall_go ?_)
    | (simp only [athen_normal, athen_exit, athen_ret, ablock_self, ablock_ne, ablock_normal, ablock_ret, Nat.reduceBEq])
    | (clear hK K; refine hK _ _ ?_; clear hK K)
    | (clear hK K; clear hK K; refine hK _ _ ?_; clear hK K)
    | (clear hK K; clear hK K; clear hK K; refine hK _ _ ?_; clear hK K)
    | (clear hK K; clear hK K; clear hK K; clear hK K; refine hK _ _ ?_; clear hK K)
    | (clear hK K; clear hK K; clear hK K; clear hK K; clear hK K; refine hK _ _ ?_; clear hK K))
  refine awp_seq' fun K hK hL => ?_
  have main : K ((V.junk :: V.junk :: (V.ref 0 0) :: (V.ref 1 0) :: (V.ref 2 0) :: (V.int .i64 0) :: V.junk :: (V.bool B) :: V.junk :: V.junk :: V.junk :: V.junk :: V.junk :: V.junk :: V.junk :: V.junk :: V.junk :: V.junk :: V.junk :: V.junk :: V.junk :: V.junk :: V.junk :: V.junk :: V.junk :: V.junk :: V.junk :: V.junk :: V.junk :: V.junk :: V.junk :: V.junk :: V.junk :: V.junk :: V.junk :: V.junk :: V.junk :: V.junk :: V.junk :: V.junk :: V.junk :: V.junk :: V.junk :: V.junk :: V.junk :: V.junk :: V.junk :: V.junk :: V.junk :: V.junk :: V.junk :: V.junk :: V.junk :: V.junk :: V.junk :: V.junk :: V.junk :: V.junk :: V.junk :: V.junk :: V.junk :: V.junk :: V.junk :: V.junk :: V.junk :: V.junk :: V.junk :: V.junk :: V.junk :: V.junk :: V.junk :: V.junk :: V.junk :: V.junk :: V.junk :: V.junk :: V.junk :: V.junk :: V.junk :: V.junk :: V.junk :: V.junk :: V.junk :: V.junk :: V.junk :: V.junk :: V.junk :: V.junk :: V.junk :: V.junk :: V.junk :: V.junk :: V.junk :: V.junk :: V.junk :: V.junk :: V.junk :: V.junk :: V.junk :: V.junk :: V.junk :: V.junk :: V.junk :: V.junk :: V.junk :: V.junk :: V.junk :: V.junk :: V.junk :: V.junk :: V.junk :: V.junk :: V.junk :: V.junk :: V.junk :: V.junk :: V.junk :: V.junk :: V.junk :: V.junk :: V.junk :: V.junk :: V.junk :: V.junk :: V.junk :: V.junk :: V.junk :: V.junk :: V.junk :: V.junk :: V.junk :: V.junk :: V.junk :: V.junk :: V.junk :: [])) [.live [nmV s.issuer, .int .i64 s.key.h, .str s.key.id, .str s.key.root, .bool s.lists, .int .i64 s.len, .int .i64 s.expl, .int .i64 s.map, .int .i64 s.any, sbsV s.names], .live [.str c.raw, .str c.tbs, .int .i64 c.serial, nmV c.issuer, nmV c.subject, .int .i64 c.nb, .int .i64 c.na, .int .i64 c.key.h, .str c.key.id, .str c.key.root, .bool c.info.basic, .bool true, .int .i64 c.info.plen, .int .i64 c.info.usage, strV c.info.purposes, strV c.info.policies, mpsV c.info.maps, .int .i64 c.info.rexp, .int .i64 c.info.imap, .int .i64 c.info.iany, gnsV c.info.names, .bool c.info.hasC, gnsV c.info.cons.p, gnsV c.info.cons.x, .str c.info.sk, .str c.info.ak, ptsV c.info.points, ptsV c.info.fresh, exsV c.info.unk, .str c.sig], .live [.nils, .int .i64 0, .str [], .str [], .bool false, .int .i64 0, .int .i64 0, .int .i64 0, .int .i64 0, .nils]] := by
    refine hK _ _ ?_
    clear hK hL K
    refine awp_seq' fun K hK hL => ?_
    have main : K ((V.junk :: V.junk :: (V.ref 0 0) :: (V.ref 1 0) :: (V.ref 2 0) :: (V.int .i64 0) :: V.junk :: (V.bool B) :: V.junk :: V.junk :: V.junk :: V.junk :: V.junk :: V.junk :: V.junk :: V.junk :: V.junk :: V.junk :: V.junk :: V.junk :: V.junk :: V.junk :: V.junk :: V.junk :: V.junk :: V.junk :: V.junk :: V.junk :: V.junk :: V.junk :: V.junk :: V.junk :: V.junk :: V.junk :: V.junk :: V.junk :: V.junk :: V.junk :: V.junk :: V.junk :: V.junk :: V.junk :: V.junk :: V.junk :: V.junk :: V.junk :: V.junk :: V.junk :: V.junk :: V.junk :: V.junk :: V.junk :: V.junk :: V.junk :: V.junk :: V.junk :: V.junk :: V.junk :: V.junk :: V.junk :: V.junk :: V.junk :: V.junk :: V.junk :: V.junk :: V.junk :: V.junk :: V.junk :: V.junk :: V.junk :: V.junk :: V.junk :: V.junk :: V.junk :: V.junk :: V.junk :: V.junk :: V.junk :: V.junk :: V.junk :: V.junk :: V.junk :: V.junk :: V.junk :: V.junk :: V.junk :: V.junk :: V.junk :: V.junk :: V.junk :: V.junk :: V.junk :: V.junk :: V.junk :: V.junk :: V.junk :: V.junk :: V.junk :: V.junk :: V.junk :: V.junk :: V.junk :: V.junk :: V.junk :: V.junk :: V.junk :: V.junk :: V.junk :: V.junk :: V.junk :: V.junk :: V.junk :: V.junk :: V.junk :: V.junk :: V.junk :: V.junk :: V.junk :: V.junk :: V.junk :: V.junk :: V.junk :: V.junk :: V.junk :: V.junk :: V.junk :: V.junk :: V.junk :: V.junk :: V.junk :: V.junk :: V.junk :: V.junk :: V.junk :: V.junk :: [])) [.live [nmV c.subject, .int .i64 c.key.h, .str c.key.id, .str c.key.root, .bool L, .int .i64 s.len, .int .i64 s.expl, .int .i64 s.map, .int .i64 s.any, sbsV s.names], .live [.str c.raw, .str c.tbs, .int .i64 c.serial, nmV c.issuer, nmV c.subject, .int .i64 c.nb, .int .i64 c.na, .int .i64 c.key.h, .str c.key.id, .str c.key.root, .bool c.info.basic, .bool true, .int .i64 c.info.plen, .int .i64 c.info.usage, strV c.info.purposes, strV c.info.policies, mpsV c.info.maps, .int .i64 c.info.rexp, .int .i64 c.info.imap, .int .i64 c.info.iany, gnsV c.info.names, .bool c.info.hasC, gnsV c.info.cons.p, gnsV c.info.cons.x, .str c.info.sk, .str c.info.ak, ptsV c.info.points, ptsV c.info.fresh, exsV c.info.unk, .str c.sig], .live [.nils, .int .i64 0, .str [], .str [], .bool false, .int .i64 0, .int .i64 0, .int .i64 0, .int .i64 0, .nils]] := by
      refine hK _ _ ?_
      clear hK hL K
      clear hLL
      iterate 9 (first
        | ((first | refine arun_go0 rfl fun K9 h9 => ?_ | refine arunD_goF rfl rfl fun K9 h9 => ?_ | refine arunD_goT rfl rfl fun K9 h9 => ?_ | (refine arun_go ?_ ?_; (focus (simp ; done)); intro K9 h9) | ((first | refine arunD_gF rfl ?_ ?_ | refine arunD_gT rfl ?_ ?_); (focus (simp ; done)); intro K9 h9)); simp (disch := (first | (simp; done) | omega | (simp; omega))) ; (try simp (disch := (first | omega | (simp; omega))) only [wrap_i64, wrap_u8, wrap_u32, wrap_u64, Int.tmod_eq_emod_of_nonneg, Int.tdiv_eq_ediv_of_nonneg]); (first | refine acall_pure (h4) (by simp) ?_ | skip); (repeat (refine And.intro (by first | omega | (simp; first | done | omega) | assumption | (intro e9; have e8 := congrArg List.length e9; first | (simp at e8; done) | ((try simp only [List.length_map, List.length_append] at e8); rw [List.length_nil] at e8; omega))) ?_)); (first | refine h9 _ _ (arun_slots (by first | (dsimp only [sput, sset]; done) | rfl) ?_) | refine h9 _ _ (arunD_slots' (by first | (dsimp only [sput, sset]; done) | rfl) (by first | (dsimp only [List.tail]; done) | rfl) ?_)); clear h9 K9)
        | (refine arun_end ?_)
        | (refine arunD_end ?_)
        | (refine awp_seq fun K hK => ?_)
        | (refine awp_region ?_)
        | (refine hK _ _ ?_; clear hK K)
        | ((first | refine awp_region_draw' (m := 0) (by decide +kernel) [] (by kernel_rfl) (by decide +kernel) ?_); dsimp only [List.replicate, List.append_nil, List.cons_append, List.nil_append, List.length_cons, List.length_nil])
        | (refine awp_block ?_)
        | (refine awp_cond rfl (fun hcnd => ?_) (fun hcnd => ?_) <;> (try simp at hcnd) <;> (try contradiction) <;> (try (exfalso; omega)))
        | (refine awp_skip ?_)
        | (refine awp_exit ?_; simp only [athen_normal, athen_exit, athen_ret, ablock_self, ablock_ne, ablock_normal, ablock_ret, Nat.reduceBEq])
        | (refine awp_ret ?_; refine ret_go ?_)
        | (refine arun_no ?_ ?_; (focus (simp ; done)); refine arun_slots (by first | (dsimp only [sput, sset]; done) | rfl) ?_)
        | ((first | refine arunD_nF rfl ?_ ?_ | refine arunD_nT rfl ?_ ?_); (focus (simp ; done)); refine arunD_slots' (by first | (dsimp only [sput, sset]; done) | rfl) (by first | (dsimp only [List.tail]; done) | rfl) ?_)
        | (refine fall_go ?_)
        | (simp only [athen_normal, athen_exit, athen_ret, ablock_self, ablock_ne, ablock_normal, ablock_ret, Nat.reduceBEq])
        | (clear hK K; refine hK _ _ ?_; clear hK K)
        | (clear hK K; clear hK K; refine hK _ _ ?_; clear hK K)
        | (clear hK K; clear hK K; clear hK K; refine hK _ _ ?_; clear hK K)
        | (clear hK K; clear hK K; clear hK K; clear hK K; refine hK _ _ ?_; clear hK K)
        | (clear hK K; clear hK K; clear hK K; clear hK K; clear hK K; refine hK _ _ ?_; clear hK K))
      refine awp_seq' fun K hK hL => ?_
      have main : K ((V.junk :: V.junk :: (V.ref 0 0) :: (V.ref 1 0) :: (V.ref 2 0) :: (V.int .i64 0) :: V.junk :: (V.bool B) :: V.junk :: V.junk :: V.junk :: V.junk :: V.junk :: V.junk :: V.junk :: V.junk :: V.junk :: V.junk :: V.junk :: V.junk :: V.junk :: V.junk :: V.junk :: V.junk :: V.junk :: V.junk :: V.junk :: V.junk :: V.junk :: V.junk :: V.junk :: V.junk :: V.junk :: V.junk :: V.junk :: V.junk :: V.junk :: V.junk :: V.junk :: V.junk :: V.junk :: V.junk :: V.junk :: V.junk :: V.junk :: V.junk :: V.junk :: V.junk :: V.junk :: V.junk :: V.junk :: V.junk :: V.junk :: V.junk :: V.junk :: V.junk :: V.junk :: V.junk :: V.junk :: V.junk :: V.junk :: V.junk :: V.junk :: V.junk :: V.junk :: V.junk :: V.junk :: V.junk :: V.junk :: V.junk :: V.junk :: V.junk :: V.junk :: V.junk :: V.junk :: V.junk :: V.junk :: V.junk :: V.junk :: V.junk :: V.junk :: V.junk :: V.junk :: V.junk :: V.junk :: V.junk :: V.junk :: V.junk :: V.junk :: V.junk :: V.junk :: V.junk :: V.junk :: V.junk :: V.junk :: V.junk :: V.junk :: V.junk :: V.junk :: V.junk :: V.junk :: V.junk :: V.junk :: V.junk :: V.junk :: V.junk :: V.junk :: V.junk :: V.junk :: V.junk :: V.junk :: V.junk :: V.junk :: V.junk :: V.junk :: V.junk :: V.junk :: V.junk :: V.junk :: V.junk :: V.junk :: V.junk :: V.junk :: V.junk :: V.junk :: V.junk :: V.junk :: V.junk :: V.junk :: V.junk :: V.junk :: V.junk :: V.junk :: V.junk :: V.junk :: [])) [.live [nmV c.subject, .int .i64 c.key.h, .str c.key.id, .str c.key.root, .bool L, .int .i64 s.len, .int .i64 s.expl, .int .i64 s.map, .int .i64 s.any, sbsV ns], .live [.str c.raw, .str c.tbs, .int .i64 c.serial, nmV c.issuer, nmV c.subject, .int .i64 c.nb, .int .i64 c.na, .int .i64 c.key.h, .str c.key.id, .str c.key.root, .bool c.info.basic, .bool true, .int .i64 c.info.plen, .int .i64 c.info.usage, strV c.info.purposes, strV c.info.policies, mpsV c.info.maps, .int .i64 c.info.rexp, .int .i64 c.info.imap, .int .i64 c.info.iany, gnsV c.info.names, .bool c.info.hasC, gnsV c.info.cons.p, gnsV c.info.cons.x, .str c.info.sk, .str c.info.ak, ptsV c.info.points, ptsV c.info.fresh, exsV c.info.unk, .str c.sig], .live [.nils, .int .i64 0, .str [], .str [], .bool false, .int .i64 0, .int .i64 0, .int .i64 0, .int .i64 0, .nils]] := by
        refine hK _ _ ?_
        clear hK hL K
        clear hns
        refine awp_seq' fun K hK hL0 => ?_
        have main : K ((V.junk :: V.junk :: (V.ref 0 0) :: (V.ref 1 0) :: (V.ref 2 0) :: V.junk :: V.junk :: V.junk :: V.junk :: V.junk :: V.junk :: V.junk :: V.junk :: V.junk :: V.junk :: V.junk :: V.junk :: V.junk :: V.junk :: V.junk :: V.junk :: V.junk :: V.junk :: V.junk :: V.junk :: V.junk :: V.junk :: V.junk :: V.junk :: V.junk :: V.junk :: V.junk :: V.junk :: V.junk :: V.junk :: V.junk :: V.junk :: V.junk :: V.junk :: V.junk :: V.junk :: V.junk :: V.junk :: V.junk :: V.junk :: V.junk :: V.junk :: V.junk :: V.junk :: V.junk :: V.junk :: V.junk :: V.junk :: V.junk :: V.junk :: V.junk :: V.junk :: V.junk :: V.junk :: V.junk :: V.junk :: V.junk :: V.junk :: V.junk :: V.junk :: V.junk :: V.junk :: V.junk :: V.junk :: V.junk :: V.junk :: V.junk :: V.junk :: V.junk :: V.junk :: V.junk :: V.junk :: V.junk :: V.junk :: V.junk :: V.junk :: V.junk :: V.junk :: V.junk :: V.junk :: V.junk :: V.junk :: V.junk :: V.junk :: V.junk :: V.junk :: V.junk :: V.junk :: V.junk :: V.junk :: V.junk :: V.junk :: V.junk :: V.junk :: V.junk :: V.junk :: V.junk :: V.junk :: V.junk :: V.junk :: V.junk :: V.junk :: V.junk :: V.junk :: V.junk :: V.junk :: V.junk :: V.junk :: V.junk :: V.junk :: V.junk :: V.junk :: V.junk :: V.junk :: V.junk :: V.junk :: V.junk :: V.junk :: V.junk :: V.junk :: V.junk :: V.junk :: V.junk :: V.junk :: V.junk :: V.junk :: V.junk :: V.junk :: V.junk :: V.junk :: [])) [.live [nmV c.subject, .int .i64 c.key.h, .str c.key.id, .str c.key.root, .bool L, .int .i64 (if B = true then s.len else s.len - 1), .int .i64 (fallS B s.expl), .int .i64 (fallS B s.map), .int .i64 (fallS B s.any), sbsV ns], .live [.str c.raw, .str c.tbs, .int .i64 c.serial, nmV c.issuer, nmV c.subject, .int .i64 c.nb, .int .i64 c.na, .int .i64 c.key.h, .str c.key.id, .str c.key.root, .bool c.info.basic, .bool true, .int .i64 c.info.plen, .int .i64 c.info.usage, strV c.info.purposes, strV c.info.policies, mpsV c.info.maps, .int .i64 c.info.rexp, .int .i64 c.info.imap, .int .i64 c.info.iany, gnsV c.info.names, .bool c.info.hasC, gnsV c.info.cons.p, gnsV c.info.cons.x, .str c.info.sk, .str c.info.ak, ptsV c.info.points, ptsV c.info.fresh, exsV c.info.unk, .str c.sig], .live [.nils, .int .i64 0, .str [], .str [], .bool false, .int .i64 0, .int .i64 0, .int .i64 0, .int .i64 0, .nils]] := by
          refine hK _ _ ?_
          clear hK hL0 K
          generalize (if B = true then s.len else s.len - 1) = n1 at *
          generalize fallS B s.expl = n2 at *
          generalize fallS B s.map = n3 at *
          generalize fallS B s.any = n4 at *
          repeat' (first
            | ((first | refine arun_go0 rfl fun K9 h9 => ?_ | refine arunD_goF rfl rfl fun K9 h9 => ?_ | refine arunD_goT rfl rfl fun K9 h9 => ?_ | (refine arun_go ?_ ?_; (focus (simp ; done)); intro K9 h9) | ((first | refine arunD_gF rfl ?_ ?_ | refine arunD_gT rfl ?_ ?_); (focus (simp ; done)); intro K9 h9)); simp (disch := (first | (simp; done) | omega | (simp; omega))) ; (try simp (disch := (first | omega | (simp; omega))) only [wrap_i64, wrap_u8, wrap_u32, wrap_u64, Int.tmod_eq_emod_of_nonneg, Int.tdiv_eq_ediv_of_nonneg]); (first | refine acall_pure (least_call _ _) (by simp) ?_ | refine ⟨_, least_call _ _, ?_⟩ | skip); (repeat (refine And.intro (by first | omega | (simp; first | done | omega) | assumption | (intro e9; have e8 := congrArg List.length e9; first | (simp at e8; done) | ((try simp only [List.length_map, List.length_append] at e8); rw [List.length_nil] at e8; omega))) ?_)); (first | refine h9 _ _ (arun_slots (by first | (dsimp only [sput, sset]; done) | rfl) ?_) | refine h9 _ _ (arunD_slots' (by first | (dsimp only [sput, sset]; done) | rfl) (by first | (dsimp only [List.tail]; done) | rfl) ?_)); clear h9 K9)
            | (refine arun_end ?_)
            | (refine arunD_end ?_)
            | (refine awp_seq fun K hK => ?_)
            | (refine awp_region ?_)
            | (refine hK _ _ ?_; clear hK K)
            | ((first | refine awp_region_draw' (m := 0) (by decide +kernel) [0, 0, 0, 0, 0, 1, 0, 0, 0, 0, 0, 1, 0, 0, 0, 0, 0, 1] (by kernel_rfl) (by decide +kernel) ?_ | refine awp_region_draw' (m := 0) (by decide +kernel) [] (by kernel_rfl) (by decide +kernel) ?_); dsimp only [List.replicate, List.append_nil, List.cons_append, List.nil_append, List.length_cons, List.length_nil])
            | (refine awp_block ?_)
            | (refine awp_cond rfl (fun hcnd => ?_) (fun hcnd => ?_) <;> (try simp at hcnd) <;> (try contradiction) <;> (try (exfalso; omega)))
            | (refine awp_skip ?_)
            | (refine awp_exit ?_; simp only [athen_normal, athen_exit, athen_ret, ablock_self, ablock_ne, ablock_normal, ablock_ret, Nat.reduceBEq])
            | (refine awp_ret ?_; refine ret_go ?_)
            | (refine arun_no ?_ ?_; (focus (simp ; done)); refine arun_slots (by first | (dsimp only [sput, sset]; done) | rfl) ?_)
            | ((first | refine arunD_nF rfl ?_ ?_ | refine arunD_nT rfl ?_ ?_); (focus (simp ; done)); refine arunD_slots' (by first | (dsimp only [sput, sset]; done) | rfl) (by first | (dsimp only [List.tail]; done) | rfl) ?_)
            | (refine fall_go ?_)
            | (simp only [athen_normal, athen_exit, athen_ret, ablock_self, ablock_ne, ablock_normal, ablock_ret, Nat.reduceBEq])
            | (clear hK K; refine hK _ _ ?_; clear hK K)
            | (clear hK K; clear hK K; refine hK _ _ ?_; clear hK K)
            | (clear hK K; clear hK K; clear hK K; refine hK _ _ ?_; clear hK K)
            | (clear hK K; clear hK K; clear hK K; clear hK K; refine hK _ _ ?_; clear hK K)
            | (clear hK K; clear hK K; clear hK K; clear hK K; clear hK K; refine hK _ _ ?_; clear hK K))
          simp
          exact .pure (by simp)

        cases B
        · have hlt : ¬ s.len < 1 := fun e => hB ⟨rfl, e⟩
          repeat' (first
            | ((first | refine arun_go0 rfl fun K9 h9 => ?_ | refine arunD_goF rfl rfl fun K9 h9 => ?_ | refine arunD_goT rfl rfl fun K9 h9 => ?_ | (refine arun_go ?_ ?_; (focus (simp ; done)); intro K9 h9) | ((first | refine arunD_gF rfl ?_ ?_ | refine arunD_gT rfl ?_ ?_); (focus (simp ; done)); intro K9 h9)); simp (disch := (first | (simp; done) | omega | (simp; omega))) ; (try simp (disch := (first | omega | (simp; omega))) only [wrap_i64, wrap_u8, wrap_u32, wrap_u64, Int.tmod_eq_emod_of_nonneg, Int.tdiv_eq_ediv_of_nonneg]); (repeat (refine And.intro (by first | omega | (simp; first | done | omega) | assumption | (intro e9; have e8 := congrArg List.length e9; first | (simp at e8; done) | ((try simp only [List.length_map, List.length_append] at e8); rw [List.length_nil] at e8; omega))) ?_)); (first | refine h9 _ _ (arun_slots (by first | (dsimp only [sput, sset]; done) | rfl) ?_) | refine h9 _ _ (arunD_slots' (by first | (dsimp only [sput, sset]; done) | rfl) (by first | (dsimp only [List.tail]; done) | rfl) ?_)); clear h9 K9)
            | (refine arun_end ?_)
            | (refine arunD_end ?_)
            | (refine awp_seq fun K hK => ?_)
            | (refine awp_region ?_)
            | (refine hK _ _ ?_; clear hK K)
            | ((first | refine awp_region_draw' (m := 0) (by decide +kernel) [] (by kernel_rfl) (by decide +kernel) ?_); dsimp only [List.replicate, List.append_nil, List.cons_append, List.nil_append, List.length_cons, List.length_nil])
            | (refine awp_block ?_)
            | (refine awp_cond rfl (fun hcnd => ?_) (fun hcnd => ?_) <;> (try simp at hcnd) <;> (try contradiction) <;> (try (exfalso; omega)))
            | (refine awp_skip ?_)
            | (refine awp_exit ?_; simp only [athen_normal, athen_exit, athen_ret, ablock_self, ablock_ne, ablock_normal, ablock_ret, Nat.reduceBEq])
            | (refine awp_ret ?_; refine ret_go ?_)
            | (refine arun_no ?_ ?_; (focus (simp ; done)); refine arun_slots (by first | (dsimp only [sput, sset]; done) | rfl) ?_)
            | ((first | refine arunD_nF rfl ?_ ?_ | refine arunD_nT rfl ?_ ?_); (focus (simp ; done)); refine arunD_slots' (by first | (dsimp only [sput, sset]; done) | rfl) (by first | (dsimp only [List.tail]; done) | rfl) ?_)
            | (refine fall_go ?_)
            | (simp only [athen_normal, athen_exit, athen_ret, ablock_self, ablock_ne, ablock_normal, ablock_ret, Nat.reduceBEq])
            | (clear hK K; refine hK _ _ ?_; clear hK K)
            | (clear hK K; clear hK K; refine hK _ _ ?_; clear hK K)
            | (clear hK K; clear hK K; clear hK K; refine hK _ _ ?_; clear hK K)
            | (clear hK K; clear hK K; clear hK K; clear hK K; refine hK _ _ ?_; clear hK K)
            | (clear hK K; clear hK K; clear hK K; clear hK K; clear hK K; refine hK _ _ ?_; clear hK K))
          refine awp_countU (fun i => (some V.junk :: some V.junk :: none :: none :: none :: some V.junk :: some V.junk :: some V.junk :: none :: some V.junk :: some V.junk :: some V.junk :: some V.junk :: some V.junk :: some V.junk :: some V.junk :: some V.junk :: some V.junk :: some V.junk :: some V.junk :: some V.junk :: some V.junk :: some V.junk :: some V.junk :: some V.junk :: some V.junk :: some V.junk :: some V.junk :: some V.junk :: some V.junk :: some V.junk :: some V.junk :: some V.junk :: some V.junk :: some V.junk :: some V.junk :: some V.junk :: some V.junk :: some V.junk :: some V.junk :: some V.junk :: some V.junk :: some V.junk :: some V.junk :: some V.junk :: some V.junk :: some V.junk :: some V.junk :: some V.junk :: some V.junk :: some V.junk :: some V.junk :: some V.junk :: some V.junk :: some V.junk :: some V.junk :: some V.junk :: some V.junk :: some V.junk :: some V.junk :: some V.junk :: some V.junk :: some V.junk :: some V.junk :: some V.junk :: some V.junk :: some V.junk :: some V.junk :: some V.junk :: some V.junk :: some V.junk :: some V.junk :: some V.junk :: some V.junk :: some V.junk :: some V.junk :: some V.junk :: some V.junk :: some V.junk :: some V.junk :: some V.junk :: some V.junk :: some V.junk :: some V.junk :: some V.junk :: some V.junk :: some V.junk :: some V.junk :: some V.junk :: some V.junk :: none :: none :: some (V.int .i64 i) :: some V.junk :: some V.junk :: some V.junk :: some V.junk :: some V.junk :: some V.junk :: some V.junk :: some V.junk :: some V.junk :: some V.junk :: some V.junk :: some V.junk :: some V.junk :: some V.junk :: some V.junk :: some V.junk :: some V.junk :: some V.junk :: some V.junk :: some V.junk :: some V.junk :: some V.junk :: some V.junk :: some V.junk :: some V.junk :: some V.junk :: some V.junk :: some V.junk :: some V.junk :: some V.junk :: some V.junk :: some V.junk :: some V.junk :: some V.junk :: some V.junk :: some V.junk :: some V.junk :: some V.junk :: some V.junk :: some V.junk :: some V.junk :: some V.junk :: [])) (fun i => [.live [nmV c.subject, .int .i64 c.key.h, .str c.key.id, .str c.key.root, .bool L, .int .i64 (s.len - 1), .int .i64 (if 1 ≤ i then decS s.expl else s.expl), .int .i64 (if 2 ≤ i then decS s.map else s.map), .int .i64 (if 3 ≤ i then decS s.any else s.any), sbsV ns], .live [.str c.raw, .str c.tbs, .int .i64 c.serial, nmV c.issuer, nmV c.subject, .int .i64 c.nb, .int .i64 c.na, .int .i64 c.key.h, .str c.key.id, .str c.key.root, .bool c.info.basic, .bool true, .int .i64 c.info.plen, .int .i64 c.info.usage, strV c.info.purposes, strV c.info.policies, mpsV c.info.maps, .int .i64 c.info.rexp, .int .i64 c.info.imap, .int .i64 c.info.iany, gnsV c.info.names, .bool c.info.hasC, gnsV c.info.cons.p, gnsV c.info.cons.x, .str c.info.sk, .str c.info.ak, ptsV c.info.points, ptsV c.info.fresh, exsV c.info.unk, .str c.sig], .live [.nils, .int .i64 0, .str [], .str [], .bool false, .int .i64 0, .int .i64 0, .int .i64 0, .int .i64 0, .nils], .live [.ref 0 6, .ref 0 7, .ref 0 8]]) 3 ?_ fun i hi KL hL => ?_
          · dsimp only [ups_some, ups_none, ups_nil, ups_nil']
            exact Le.mk [some 0, some 1, some 2, some 3] (by simp) (rowsRen_of (by simp) (by simp [rowsOver, rowRen_live])) (by simp)
          dsimp only [ups_some, ups_none, ups_nil, ups_nil']
          match i, hi with
          | 0, _ =>
            by_cases hx : 0 < s.expl
            · repeat' (first
                | ((first | refine arun_go0 rfl fun K9 h9 => ?_ | refine arunD_goF rfl rfl fun K9 h9 => ?_ | refine arunD_goT rfl rfl fun K9 h9 => ?_ | (refine arun_go ?_ ?_; (focus (simp [hx]; done)); intro K9 h9) | ((first | refine arunD_gF rfl ?_ ?_ | refine arunD_gT rfl ?_ ?_); (focus (simp [hx]; done)); intro K9 h9)); simp (disch := (first | (simp; done) | omega | (simp; omega))) [hx]; (try simp (disch := (first | omega | (simp; omega))) only [wrap_i64, wrap_u8, wrap_u32, wrap_u64, Int.tmod_eq_emod_of_nonneg, Int.tdiv_eq_ediv_of_nonneg]); (repeat (refine And.intro (by first | omega | (simp; first | done | omega) | assumption | (intro e9; have e8 := congrArg List.length e9; first | (simp at e8; done) | ((try simp only [List.length_map, List.length_append] at e8); rw [List.length_nil] at e8; omega))) ?_)); (first | refine h9 _ _ (arun_slots (by first | (dsimp only [sput, sset]; done) | rfl) ?_) | refine h9 _ _ (arunD_slots' (by first | (dsimp only [sput, sset]; done) | rfl) (by first | (dsimp only [List.tail]; done) | rfl) ?_)); clear h9 K9)
                | (refine arun_end ?_)
                | (refine arunD_end ?_)
                | (refine awp_seq fun K hK => ?_)
                | (refine awp_region ?_)
                | (refine hK _ _ ?_; clear hK K)
                | ((first | refine awp_region_draw' (m := 0) (by decide +kernel) [] (by kernel_rfl) (by decide +kernel) ?_); dsimp only [List.replicate, List.append_nil, List.cons_append, List.nil_append, List.length_cons, List.length_nil])
                | (refine awp_block ?_)
                | (refine awp_cond rfl (fun hcnd => ?_) (fun hcnd => ?_) <;> (try simp at hcnd) <;> (try contradiction) <;> (try (exfalso; omega)))
                | (refine awp_skip ?_)
                | (refine awp_exit ?_; simp only [athen_normal, athen_exit, athen_ret, ablock_self, ablock_ne, ablock_normal, ablock_ret, Nat.reduceBEq])
                | (refine awp_ret ?_; refine ret_go ?_)
                | (refine arun_no ?_ ?_; (focus (simp [hx]; done)); refine arun_slots (by first | (dsimp only [sput, sset]; done) | rfl) ?_)
                | ((first | refine arunD_nF rfl ?_ ?_ | refine arunD_nT rfl ?_ ?_); (focus (simp [hx]; done)); refine arunD_slots' (by first | (dsimp only [sput, sset]; done) | rfl) (by first | (dsimp only [List.tail]; done) | rfl) ?_)
                | (refine fall_go ?_)
                | (simp only [athen_normal, athen_exit, athen_ret, ablock_self, ablock_ne, ablock_normal, ablock_ret, Nat.reduceBEq])
                | (clear hK K; refine hK _ _ ?_; clear hK K)
                | (clear hK K; clear hK K; refine hK _ _ ?_; clear hK K)
                | (clear hK K; clear hK K; clear hK K; refine hK _ _ ?_; clear hK K)
                | (clear hK K; clear hK K; clear hK K; clear hK K; refine hK _ _ ?_; clear hK K)
                | (clear hK K; clear hK K; clear hK K; clear hK K; clear hK K; refine hK _ _ ?_; clear hK K))
              refine hL _ _ (by omega) ?_
              exact Le.mk [some 0, some 1, some 2, some 3] (by dsimp only [ups_some, ups_none, ups_nil, ups_nil']; simp) (rowsRen_of (by simp) (by simp [rowsOver, rowRen_live, decS, hx])) (by simp)
            · repeat' (first
                | ((first | refine arun_go0 rfl fun K9 h9 => ?_ | refine arunD_goF rfl rfl fun K9 h9 => ?_ | refine arunD_goT rfl rfl fun K9 h9 => ?_ | (refine arun_go ?_ ?_; (focus (simp [hx]; done)); intro K9 h9) | ((first | refine arunD_gF rfl ?_ ?_ | refine arunD_gT rfl ?_ ?_); (focus (simp [hx]; done)); intro K9 h9)); simp (disch := (first | (simp; done) | omega | (simp; omega))) [hx]; (try simp (disch := (first | omega | (simp; omega))) only [wrap_i64, wrap_u8, wrap_u32, wrap_u64, Int.tmod_eq_emod_of_nonneg, Int.tdiv_eq_ediv_of_nonneg]); (repeat (refine And.intro (by first | omega | (simp; first | done | omega) | assumption | (intro e9; have e8 := congrArg List.length e9; first | (simp at e8; done) | ((try simp only [List.length_map, List.length_append] at e8); rw [List.length_nil] at e8; omega))) ?_)); (first | refine h9 _ _ (arun_slots (by first | (dsimp only [sput, sset]; done) | rfl) ?_) | refine h9 _ _ (arunD_slots' (by first | (dsimp only [sput, sset]; done) | rfl) (by first | (dsimp only [List.tail]; done) | rfl) ?_)); clear h9 K9)
                | (refine arun_end ?_)
                | (refine arunD_end ?_)
                | (refine awp_seq fun K hK => ?_)
                | (refine awp_region ?_)
                | (refine hK _ _ ?_; clear hK K)
                | ((first | refine awp_region_draw' (m := 0) (by decide +kernel) [] (by kernel_rfl) (by decide +kernel) ?_); dsimp only [List.replicate, List.append_nil, List.cons_append, List.nil_append, List.length_cons, List.length_nil])
                | (refine awp_block ?_)
                | (refine awp_cond rfl (fun hcnd => ?_) (fun hcnd => ?_) <;> (try simp at hcnd) <;> (try contradiction) <;> (try (exfalso; omega)))
                | (refine awp_skip ?_)
                | (refine awp_exit ?_; simp only [athen_normal, athen_exit, athen_ret, ablock_self, ablock_ne, ablock_normal, ablock_ret, Nat.reduceBEq])
                | (refine awp_ret ?_; refine ret_go ?_)
                | (refine arun_no ?_ ?_; (focus (simp [hx]; done)); refine arun_slots (by first | (dsimp only [sput, sset]; done) | rfl) ?_)
                | ((first | refine arunD_nF rfl ?_ ?_ | refine arunD_nT rfl ?_ ?_); (focus (simp [hx]; done)); refine arunD_slots' (by first | (dsimp only [sput, sset]; done) | rfl) (by first | (dsimp only [List.tail]; done) | rfl) ?_)
                | (refine fall_go ?_)
                | (simp only [athen_normal, athen_exit, athen_ret, ablock_self, ablock_ne, ablock_normal, ablock_ret, Nat.reduceBEq])
                | (clear hK K; refine hK _ _ ?_; clear hK K)
                | (clear hK K; clear hK K; refine hK _ _ ?_; clear hK K)
                | (clear hK K; clear hK K; clear hK K; refine hK _ _ ?_; clear hK K)
                | (clear hK K; clear hK K; clear hK K; clear hK K; refine hK _ _ ?_; clear hK K)
                | (clear hK K; clear hK K; clear hK K; clear hK K; clear hK K; refine hK _ _ ?_; clear hK K))
              refine hL _ _ (by omega) ?_
              exact Le.mk [some 0, some 1, some 2, some 3] (by dsimp only [ups_some, ups_none, ups_nil, ups_nil']; simp) (rowsRen_of (by simp) (by simp [rowsOver, rowRen_live, decS, hx])) (by simp)
          | 1, _ =>
            by_cases hx : 0 < s.map
            · repeat' (first
                | ((first | refine arun_go0 rfl fun K9 h9 => ?_ | refine arunD_goF rfl rfl fun K9 h9 => ?_ | refine arunD_goT rfl rfl fun K9 h9 => ?_ | (refine arun_go ?_ ?_; (focus (simp [hx]; done)); intro K9 h9) | ((first | refine arunD_gF rfl ?_ ?_ | refine arunD_gT rfl ?_ ?_); (focus (simp [hx]; done)); intro K9 h9)); simp (disch := (first | (simp; done) | omega | (simp; omega))) [hx]; (try simp (disch := (first | omega | (simp; omega))) only [wrap_i64, wrap_u8, wrap_u32, wrap_u64, Int.tmod_eq_emod_of_nonneg, Int.tdiv_eq_ediv_of_nonneg]); (repeat (refine And.intro (by first | omega | (simp; first | done | omega) | assumption | (intro e9; have e8 := congrArg List.length e9; first | (simp at e8; done) | ((try simp only [List.length_map, List.length_append] at e8); rw [List.length_nil] at e8; omega))) ?_)); (first | refine h9 _ _ (arun_slots (by first | (dsimp only [sput, sset]; done) | rfl) ?_) | refine h9 _ _ (arunD_slots' (by first | (dsimp only [sput, sset]; done) | rfl) (by first | (dsimp only [List.tail]; done) | rfl) ?_)); clear h9 K9)
                | (refine arun_end ?_)
                | (refine arunD_end ?_)
                | (refine awp_seq fun K hK => ?_)
                | (refine awp_region ?_)
                | (refine hK _ _ ?_; clear hK K)
                | ((first | refine awp_region_draw' (m := 0) (by decide +kernel) [] (by kernel_rfl) (by decide +kernel) ?_); dsimp only [List.replicate, List.append_nil, List.cons_append, List.nil_append, List.length_cons, List.length_nil])
                | (refine awp_block ?_)
                | (refine awp_cond rfl (fun hcnd => ?_) (fun hcnd => ?_) <;> (try simp at hcnd) <;> (try contradiction) <;> (try (exfalso; omega)))
                | (refine awp_skip ?_)
                | (refine awp_exit ?_; simp only [athen_normal, athen_exit, athen_ret, ablock_self, ablock_ne, ablock_normal, ablock_ret, Nat.reduceBEq])
                | (refine awp_ret ?_; refine ret_go ?_)
                | (refine arun_no ?_ ?_; (focus (simp [hx]; done)); refine arun_slots (by first | (dsimp only [sput, sset]; done) | rfl) ?_)
                | ((first | refine arunD_nF rfl ?_ ?_ | refine arunD_nT rfl ?_ ?_); (focus (simp [hx]; done)); refine arunD_slots' (by first | (dsimp only [sput, sset]; done) | rfl) (by first | (dsimp only [List.tail]; done) | rfl) ?_)
                | (refine fall_go ?_)
                | (simp only [athen_normal, athen_exit, athen_ret, ablock_self, ablock_ne, ablock_normal, ablock_ret, Nat.reduceBEq])
                | (clear hK K; refine hK _ _ ?_; clear hK K)
                | (clear hK K; clear hK K; refine hK _ _ ?_; clear hK K)
                | (clear hK K; clear hK K; clear hK K; refine hK _ _ ?_; clear hK K)
                | (clear hK K; clear hK K; clear hK K; clear hK K; refine hK _ _ ?_; clear hK K)
                | (clear hK K; clear hK K; clear hK K; clear hK K; clear hK K; refine hK _ _ ?_; clear hK K))
              refine hL _ _ (by omega) ?_
              exact Le.mk [some 0, some 1, some 2, some 3] (by dsimp only [ups_some, ups_none, ups_nil, ups_nil']; simp) (rowsRen_of (by simp) (by simp [rowsOver, rowRen_live, decS, hx])) (by simp)
            · repeat' (first
                | ((first | refine arun_go0 rfl fun K9 h9 => ?_ | refine arunD_goF rfl rfl fun K9 h9 => ?_ | refine arunD_goT rfl rfl fun K9 h9 => ?_ | (refine arun_go ?_ ?_; (focus (simp [hx]; done)); intro K9 h9) | ((first | refine arunD_gF rfl ?_ ?_ | refine arunD_gT rfl ?_ ?_); (focus (simp [hx]; done)); intro K9 h9)); simp (disch := (first | (simp; done) | omega | (simp; omega))) [hx]; (try simp (disch := (first | omega | (simp; omega))) only [wrap_i64, wrap_u8, wrap_u32, wrap_u64, Int.tmod_eq_emod_of_nonneg, Int.tdiv_eq_ediv_of_nonneg]); (repeat (refine And.intro (by first | omega | (simp; first | done | omega) | assumption | (intro e9; have e8 := congrArg List.length e9; first | (simp at e8; done) | ((try simp only [List.length_map, List.length_append] at e8); rw [List.length_nil] at e8; omega))) ?_)); (first | refine h9 _ _ (arun_slots (by first | (dsimp only [sput, sset]; done) | rfl) ?_) | refine h9 _ _ (arunD_slots' (by first | (dsimp only [sput, sset]; done) | rfl) (by first | (dsimp only [List.tail]; done) | rfl) ?_)); clear h9 K9)
                | (refine arun_end ?_)
                | (refine arunD_end ?_)
                | (refine awp_seq fun K hK => ?_)
                | (refine awp_region ?_)
                | (refine hK _ _ ?_; clear hK K)
                | ((first | refine awp_region_draw' (m := 0) (by decide +kernel) [] (by kernel_rfl) (by decide +kernel) ?_); dsimp only [List.replicate, List.append_nil, List.cons_append, List.nil_append, List.length_cons, List.length_nil])
                | (refine awp_block ?_)
                | (refine awp_cond rfl (fun hcnd => ?_) (fun hcnd => ?_) <;> (try simp at hcnd) <;> (try contradiction) <;> (try (exfalso; omega)))
                | (refine awp_skip ?_)
                | (refine awp_exit ?_; simp only [athen_normal, athen_exit, athen_ret, ablock_self, ablock_ne, ablock_normal, ablock_ret, Nat.reduceBEq])
                | (refine awp_ret ?_; refine ret_go ?_)
                | (refine arun_no ?_ ?_; (focus (simp [hx]; done)); refine arun_slots (by first | (dsimp only [sput, sset]; done) | rfl) ?_)
                | ((first | refine arunD_nF rfl ?_ ?_ | refine arunD_nT rfl ?_ ?_); (focus (simp [hx]; done)); refine arunD_slots' (by first | (dsimp only [sput, sset]; done) | rfl) (by first | (dsimp only [List.tail]; done) | rfl) ?_)
                | (refine fall_go ?_)
                | (simp only [athen_normal, athen_exit, athen_ret, ablock_self, ablock_ne, ablock_normal, ablock_ret, Nat.reduceBEq])
                | (clear hK K; refine hK _ _ ?_; clear hK K)
                | (clear hK K; clear hK K; refine hK _ _ ?_; clear hK K)
                | (clear hK K; clear hK K; clear hK K; refine hK _ _ ?_; clear hK K)
                | (clear hK K; clear hK K; clear hK K; clear hK K; refine hK _ _ ?_; clear hK K)
                | (clear hK K; clear hK K; clear hK K; clear hK K; clear hK K; refine hK _ _ ?_; clear hK K))
              refine hL _ _ (by omega) ?_
              exact Le.mk [some 0, some 1, some 2, some 3] (by dsimp only [ups_some, ups_none, ups_nil, ups_nil']; simp) (rowsRen_of (by simp) (by simp [rowsOver, rowRen_live, decS, hx])) (by simp)
          | 2, _ =>
            by_cases hx : 0 < s.any
            · repeat' (first
                | ((first | refine arun_go0 rfl fun K9 h9 => ?_ | refine arunD_goF rfl rfl fun K9 h9 => ?_ | refine arunD_goT rfl rfl fun K9 h9 => ?_ | (refine arun_go ?_ ?_; (focus (simp [hx]; done)); intro K9 h9) | ((first | refine arunD_gF rfl ?_ ?_ | refine arunD_gT rfl ?_ ?_); (focus (simp [hx]; done)); intro K9 h9)); simp (disch := (first | (simp; done) | omega | (simp; omega))) [hx]; (try simp (disch := (first | omega | (simp; omega))) only [wrap_i64, wrap_u8, wrap_u32, wrap_u64, Int.tmod_eq_emod_of_nonneg, Int.tdiv_eq_ediv_of_nonneg]); (repeat (refine And.intro (by first | omega | (simp; first | done | omega) | assumption | (intro e9; have e8 := congrArg List.length e9; first | (simp at e8; done) | ((try simp only [List.length_map, List.length_append] at e8); rw [List.length_nil] at e8; omega))) ?_)); (first | refine h9 _ _ (arun_slots (by first | (dsimp only [sput, sset]; done) | rfl) ?_) | refine h9 _ _ (arunD_slots' (by first | (dsimp only [sput, sset]; done) | rfl) (by first | (dsimp only [List.tail]; done) | rfl) ?_)); clear h9 K9)
                | (refine arun_end ?_)
                | (refine arunD_end ?_)
                | (refine awp_seq fun K hK => ?_)
                | (refine awp_region ?_)
                | (refine hK _ _ ?_; clear hK K)
                | ((first | refine awp_region_draw' (m := 0) (by decide +kernel) [] (by kernel_rfl) (by decide +kernel) ?_); dsimp only [List.replicate, List.append_nil, List.cons_append, List.nil_append, List.length_cons, List.length_nil])
                | (refine awp_block ?_)
                | (refine awp_cond rfl (fun hcnd => ?_) (fun hcnd => ?_) <;> (try simp at hcnd) <;> (try contradiction) <;> (try (exfalso; omega)))
                | (refine awp_skip ?_)
                | (refine awp_exit ?_; simp only [athen_normal, athen_exit, athen_ret, ablock_self, ablock_ne, ablock_normal, ablock_ret, Nat.reduceBEq])
                | (refine awp_ret ?_; refine ret_go ?_)
                | (refine arun_no ?_ ?_; (focus (simp [hx]; done)); refine arun_slots (by first | (dsimp only [sput, sset]; done) | rfl) ?_)
                | ((first | refine arunD_nF rfl ?_ ?_ | refine arunD_nT rfl ?_ ?_); (focus (simp [hx]; done)); refine arunD_slots' (by first | (dsimp only [sput, sset]; done) | rfl) (by first | (dsimp only [List.tail]; done) | rfl) ?_)
                | (refine fall_go ?_)
                | (simp only [athen_normal, athen_exit, athen_ret, ablock_self, ablock_ne, ablock_normal, ablock_ret, Nat.reduceBEq])
                | (clear hK K; refine hK _ _ ?_; clear hK K)
                | (clear hK K; clear hK K; refine hK _ _ ?_; clear hK K)
                | (clear hK K; clear hK K; clear hK K; refine hK _ _ ?_; clear hK K)
                | (clear hK K; clear hK K; clear hK K; clear hK K; refine hK _ _ ?_; clear hK K)
                | (clear hK K; clear hK K; clear hK K; clear hK K; clear hK K; refine hK _ _ ?_; clear hK K))
              refine hL _ _ (by omega) ?_
              exact Le.mk [some 0, some 1, some 2, some 3] (by dsimp only [ups_some, ups_none, ups_nil, ups_nil']; simp) (rowsRen_of (by simp) (by simp [rowsOver, rowRen_live, decS, hx])) (by simp)
            · repeat' (first
                | ((first | refine arun_go0 rfl fun K9 h9 => ?_ | refine arunD_goF rfl rfl fun K9 h9 => ?_ | refine arunD_goT rfl rfl fun K9 h9 => ?_ | (refine arun_go ?_ ?_; (focus (simp [hx]; done)); intro K9 h9) | ((first | refine arunD_gF rfl ?_ ?_ | refine arunD_gT rfl ?_ ?_); (focus (simp [hx]; done)); intro K9 h9)); simp (disch := (first | (simp; done) | omega | (simp; omega))) [hx]; (try simp (disch := (first | omega | (simp; omega))) only [wrap_i64, wrap_u8, wrap_u32, wrap_u64, Int.tmod_eq_emod_of_nonneg, Int.tdiv_eq_ediv_of_nonneg]); (repeat (refine And.intro (by first | omega | (simp; first | done | omega) | assumption | (intro e9; have e8 := congrArg List.length e9; first | (simp at e8; done) | ((try simp only [List.length_map, List.length_append] at e8); rw [List.length_nil] at e8; omega))) ?_)); (first | refine h9 _ _ (arun_slots (by first | (dsimp only [sput, sset]; done) | rfl) ?_) | refine h9 _ _ (arunD_slots' (by first | (dsimp only [sput, sset]; done) | rfl) (by first | (dsimp only [List.tail]; done) | rfl) ?_)); clear h9 K9)
                | (refine arun_end ?_)
                | (refine arunD_end ?_)
                | (refine awp_seq fun K hK => ?_)
                | (refine awp_region ?_)
                | (refine hK _ _ ?_; clear hK K)
                | ((first | refine awp_region_draw' (m := 0) (by decide +kernel) [] (by kernel_rfl) (by decide +kernel) ?_); dsimp only [List.replicate, List.append_nil, List.cons_append, List.nil_append, List.length_cons, List.length_nil])
                | (refine awp_block ?_)
                | (refine awp_cond rfl (fun hcnd => ?_) (fun hcnd => ?_) <;> (try simp at hcnd) <;> (try contradiction) <;> (try (exfalso; omega)))
                | (refine awp_skip ?_)
                | (refine awp_exit ?_; simp only [athen_normal, athen_exit, athen_ret, ablock_self, ablock_ne, ablock_normal, ablock_ret, Nat.reduceBEq])
                | (refine awp_ret ?_; refine ret_go ?_)
                | (refine arun_no ?_ ?_; (focus (simp [hx]; done)); refine arun_slots (by first | (dsimp only [sput, sset]; done) | rfl) ?_)
                | ((first | refine arunD_nF rfl ?_ ?_ | refine arunD_nT rfl ?_ ?_); (focus (simp [hx]; done)); refine arunD_slots' (by first | (dsimp only [sput, sset]; done) | rfl) (by first | (dsimp only [List.tail]; done) | rfl) ?_)
                | (refine fall_go ?_)
                | (simp only [athen_normal, athen_exit, athen_ret, ablock_self, ablock_ne, ablock_normal, ablock_ret, Nat.reduceBEq])
                | (clear hK K; refine hK _ _ ?_; clear hK K)
                | (clear hK K; clear hK K; refine hK _ _ ?_; clear hK K)
                | (clear hK K; clear hK K; clear hK K; refine hK _ _ ?_; clear hK K)
                | (clear hK K; clear hK K; clear hK K; clear hK K; refine hK _ _ ?_; clear hK K)
                | (clear hK K; clear hK K; clear hK K; clear hK K; clear hK K; refine hK _ _ ?_; clear hK K))
              refine hL _ _ (by omega) ?_
              exact Le.mk [some 0, some 1, some 2, some 3] (by dsimp only [ups_some, ups_none, ups_nil, ups_nil']; simp) (rowsRen_of (by simp) (by simp [rowsOver, rowRen_live, decS, hx])) (by simp)
          | 3, _ =>
            repeat' (first
              | ((first | refine arun_go0 rfl fun K9 h9 => ?_ | refine arunD_goF rfl rfl fun K9 h9 => ?_ | refine arunD_goT rfl rfl fun K9 h9 => ?_ | (refine arun_go ?_ ?_; (focus (simp ; done)); intro K9 h9) | ((first | refine arunD_gF rfl ?_ ?_ | refine arunD_gT rfl ?_ ?_); (focus (simp ; done)); intro K9 h9)); simp (disch := (first | (simp; done) | omega | (simp; omega))) ; (try simp (disch := (first | omega | (simp; omega))) only [wrap_i64, wrap_u8, wrap_u32, wrap_u64, Int.tmod_eq_emod_of_nonneg, Int.tdiv_eq_ediv_of_nonneg]); (repeat (refine And.intro (by first | omega | (simp; first | done | omega) | assumption | (intro e9; have e8 := congrArg List.length e9; first | (simp at e8; done) | ((try simp only [List.length_map, List.length_append] at e8); rw [List.length_nil] at e8; omega))) ?_)); (first | refine h9 _ _ (arun_slots (by first | (dsimp only [sput, sset]; done) | rfl) ?_) | refine h9 _ _ (arunD_slots' (by first | (dsimp only [sput, sset]; done) | rfl) (by first | (dsimp only [List.tail]; done) | rfl) ?_)); clear h9 K9)
              | (refine arun_end ?_)
              | (refine arunD_end ?_)
              | (refine awp_seq fun K hK => ?_)
              | (refine awp_region ?_)
              | (refine hK _ _ ?_; clear hK K)
              | ((first | refine awp_region_draw' (m := 0) (by decide +kernel) [] (by kernel_rfl) (by decide +kernel) ?_); dsimp only [List.replicate, List.append_nil, List.cons_append, List.nil_append, List.length_cons, List.length_nil])
              | (refine awp_block ?_)
              | (refine awp_cond rfl (fun hcnd => ?_) (fun hcnd => ?_) <;> (try simp at hcnd) <;> (try contradiction) <;> (try (exfalso; omega)))
              | (refine awp_skip ?_)
              | (refine awp_exit ?_; simp only [athen_normal, athen_exit, athen_ret, ablock_self, ablock_ne, ablock_normal, ablock_ret, Nat.reduceBEq])
              | (refine awp_ret ?_; refine ret_go ?_)
              | (refine arun_no ?_ ?_; (focus (simp ; done)); refine arun_slots (by first | (dsimp only [sput, sset]; done) | rfl) ?_)
              | ((first | refine arunD_nF rfl ?_ ?_ | refine arunD_nT rfl ?_ ?_); (focus (simp ; done)); refine arunD_slots' (by first | (dsimp only [sput, sset]; done) | rfl) (by first | (dsimp only [List.tail]; done) | rfl) ?_)
              | (refine fall_go ?_)
              | (simp only [athen_normal, athen_exit, athen_ret, ablock_self, ablock_ne, ablock_normal, ablock_ret, Nat.reduceBEq])
              | (clear hK K; refine hK _ _ ?_; clear hK K)
              | (clear hK K; clear hK K; refine hK _ _ ?_; clear hK K)
              | (clear hK K; clear hK K; clear hK K; refine hK _ _ ?_; clear hK K)
              | (clear hK K; clear hK K; clear hK K; clear hK K; refine hK _ _ ?_; clear hK K)
              | (clear hK K; clear hK K; clear hK K; clear hK K; clear hK K; refine hK _ _ ?_; clear hK K))
            refine hL0 _ _ _ _ ?_ main
            exact Le.mk [some 0, some 1, some 2] (by simp) (rowsRen_of (by simp) (by simp [rowsOver, rowRen_live, fallS])) (by simp)
        · repeat' (first
            | ((first | refine arun_go0 rfl fun K9 h9 => ?_ | refine arunD_goF rfl rfl fun K9 h9 => ?_ | refine arunD_goT rfl rfl fun K9 h9 => ?_ | (refine arun_go ?_ ?_; (focus (simp ; done)); intro K9 h9) | ((first | refine arunD_gF rfl ?_ ?_ | refine arunD_gT rfl ?_ ?_); (focus (simp ; done)); intro K9 h9)); simp (disch := (first | (simp; done) | omega | (simp; omega))) ; (try simp (disch := (first | omega | (simp; omega))) only [wrap_i64, wrap_u8, wrap_u32, wrap_u64, Int.tmod_eq_emod_of_nonneg, Int.tdiv_eq_ediv_of_nonneg]); (repeat (refine And.intro (by first | omega | (simp; first | done | omega) | assumption | (intro e9; have e8 := congrArg List.length e9; first | (simp at e8; done) | ((try simp only [List.length_map, List.length_append] at e8); rw [List.length_nil] at e8; omega))) ?_)); (first | refine h9 _ _ (arun_slots (by first | (dsimp only [sput, sset]; done) | rfl) ?_) | refine h9 _ _ (arunD_slots' (by first | (dsimp only [sput, sset]; done) | rfl) (by first | (dsimp only [List.tail]; done) | rfl) ?_)); clear h9 K9)
            | (refine arun_end ?_)
            | (refine arunD_end ?_)
            | (refine awp_seq fun K hK => ?_)
            | (refine awp_region ?_)
            | (refine hK _ _ ?_; clear hK K)
            | ((first | refine awp_region_draw' (m := 0) (by decide +kernel) [] (by kernel_rfl) (by decide +kernel) ?_); dsimp only [List.replicate, List.append_nil, List.cons_append, List.nil_append, List.length_cons, List.length_nil])
            | (refine awp_block ?_)
            | (refine awp_cond rfl (fun hcnd => ?_) (fun hcnd => ?_) <;> (try simp at hcnd) <;> (try contradiction) <;> (try (exfalso; omega)))
            | (refine awp_skip ?_)
            | (refine awp_exit ?_; simp only [athen_normal, athen_exit, athen_ret, ablock_self, ablock_ne, ablock_normal, ablock_ret, Nat.reduceBEq])
            | (refine awp_ret ?_; refine ret_go ?_)
            | (refine arun_no ?_ ?_; (focus (simp ; done)); refine arun_slots (by first | (dsimp only [sput, sset]; done) | rfl) ?_)
            | ((first | refine arunD_nF rfl ?_ ?_ | refine arunD_nT rfl ?_ ?_); (focus (simp ; done)); refine arunD_slots' (by first | (dsimp only [sput, sset]; done) | rfl) (by first | (dsimp only [List.tail]; done) | rfl) ?_)
            | (refine fall_go ?_)
            | (simp only [athen_normal, athen_exit, athen_ret, ablock_self, ablock_ne, ablock_normal, ablock_ret, Nat.reduceBEq])
            | (clear hK K; refine hK _ _ ?_; clear hK K)
            | (clear hK K; clear hK K; refine hK _ _ ?_; clear hK K)
            | (clear hK K; clear hK K; clear hK K; refine hK _ _ ?_; clear hK K)
            | (clear hK K; clear hK K; clear hK K; clear hK K; refine hK _ _ ?_; clear hK K)
            | (clear hK K; clear hK K; clear hK K; clear hK K; clear hK K; refine hK _ _ ?_; clear hK K))
          refine hL0 _ _ _ _ ?_ main
          exact Le.mk [some 0, some 1, some 2] (by simp) (rowsRen_of (by simp) (by simp [rowsOver, fallS])) (by simp)

      by_cases hC : c.info.hasC = true
      · obtain rfl : s.names ++ [c.info.cons] = ns := by rw [← hns, if_pos hC]
        repeat' (first
          | ((first | refine arun_go0 rfl fun K9 h9 => ?_ | refine arunD_goF rfl rfl fun K9 h9 => ?_ | refine arunD_goT rfl rfl fun K9 h9 => ?_ | (refine arun_go ?_ ?_; (focus (simp [hC]; done)); intro K9 h9) | ((first | refine arunD_gF rfl ?_ ?_ | refine arunD_gT rfl ?_ ?_); (focus (simp [hC]; done)); intro K9 h9)); simp (disch := (first | (simp; done) | omega | (simp; omega))) [hC]; (try simp (disch := (first | omega | (simp; omega))) only [wrap_i64, wrap_u8, wrap_u32, wrap_u64, Int.tmod_eq_emod_of_nonneg, Int.tdiv_eq_ediv_of_nonneg]); (first | refine acall_pure (h4) (by simp) ?_ | refine acall_pure (h5) (by simp) ?_ | refine acall_pure (h6) (by simp) ?_ | skip); (repeat (refine And.intro (by first | omega | (simp; first | done | omega) | assumption | (intro e9; have e8 := congrArg List.length e9; first | (simp at e8; done) | ((try simp only [List.length_map, List.length_append] at e8); rw [List.length_nil] at e8; omega))) ?_)); (first | refine h9 _ _ (arun_slots (by first | (dsimp only [sput, sset]; done) | rfl) ?_) | refine h9 _ _ (arunD_slots' (by first | (dsimp only [sput, sset]; done) | rfl) (by first | (dsimp only [List.tail]; done) | rfl) ?_)); clear h9 K9)
          | (refine arun_end ?_)
          | (refine arunD_end ?_)
          | (refine awp_seq fun K hK => ?_)
          | (refine awp_region ?_)
          | (refine hK _ _ ?_; clear hK K)
          | ((first | refine awp_region_draw' (m := 0) (by decide +kernel) [] (by kernel_rfl) (by decide +kernel) ?_); dsimp only [List.replicate, List.append_nil, List.cons_append, List.nil_append, List.length_cons, List.length_nil])
          | (refine awp_block ?_)
          | (refine awp_cond rfl (fun hcnd => ?_) (fun hcnd => ?_) <;> (try simp at hcnd) <;> (try contradiction) <;> (try (exfalso; omega)))
          | (refine awp_skip ?_)
          | (refine awp_exit ?_; simp only [athen_normal, athen_exit, athen_ret, ablock_self, ablock_ne, ablock_normal, ablock_ret, Nat.reduceBEq])
          | (refine awp_ret ?_; refine ret_go ?_)
          | (refine arun_no ?_ ?_; (focus (simp [hC]; done)); refine arun_slots (by first | (dsimp only [sput, sset]; done) | rfl) ?_)
          | ((first | refine arunD_nF rfl ?_ ?_ | refine arunD_nT rfl ?_ ?_); (focus (simp [hC]; done)); refine arunD_slots' (by first | (dsimp only [sput, sset]; done) | rfl) (by first | (dsimp only [List.tail]; done) | rfl) ?_)
          | (refine fall_go ?_)
          | (simp only [athen_normal, athen_exit, athen_ret, ablock_self, ablock_ne, ablock_normal, ablock_ret, Nat.reduceBEq])
          | (clear hK K; refine hK _ _ ?_; clear hK K)
          | (clear hK K; clear hK K; refine hK _ _ ?_; clear hK K)
          | (clear hK K; clear hK K; clear hK K; refine hK _ _ ?_; clear hK K)
          | (clear hK K; clear hK K; clear hK K; clear hK K; refine hK _ _ ?_; clear hK K)
          | (clear hK K; clear hK K; clear hK K; clear hK K; clear hK K; refine hK _ _ ?_; clear hK K))
        refine hL _ _ _ _ ?_ main
        exact Le.mk [some 0, some 1, some 2] (by simp) (rowsRen_of (by simp) (by simp [rowsOver, hC])) (by simp)
      · obtain rfl : s.names = ns := by rw [← hns, if_neg hC]
        repeat' (first
          | ((first | refine arun_go0 rfl fun K9 h9 => ?_ | refine arunD_goF rfl rfl fun K9 h9 => ?_ | refine arunD_goT rfl rfl fun K9 h9 => ?_ | (refine arun_go ?_ ?_; (focus (simp [hC]; done)); intro K9 h9) | ((first | refine arunD_gF rfl ?_ ?_ | refine arunD_gT rfl ?_ ?_); (focus (simp [hC]; done)); intro K9 h9)); simp (disch := (first | (simp; done) | omega | (simp; omega))) [hC]; (try simp (disch := (first | omega | (simp; omega))) only [wrap_i64, wrap_u8, wrap_u32, wrap_u64, Int.tmod_eq_emod_of_nonneg, Int.tdiv_eq_ediv_of_nonneg]); (first | refine acall_pure (h4) (by simp) ?_ | refine acall_pure (h5) (by simp) ?_ | refine acall_pure (h6) (by simp) ?_ | skip); (repeat (refine And.intro (by first | omega | (simp; first | done | omega) | assumption | (intro e9; have e8 := congrArg List.length e9; first | (simp at e8; done) | ((try simp only [List.length_map, List.length_append] at e8); rw [List.length_nil] at e8; omega))) ?_)); (first | refine h9 _ _ (arun_slots (by first | (dsimp only [sput, sset]; done) | rfl) ?_) | refine h9 _ _ (arunD_slots' (by first | (dsimp only [sput, sset]; done) | rfl) (by first | (dsimp only [List.tail]; done) | rfl) ?_)); clear h9 K9)
          | (refine arun_end ?_)
          | (refine arunD_end ?_)
          | (refine awp_seq fun K hK => ?_)
          | (refine awp_region ?_)
          | (refine hK _ _ ?_; clear hK K)
          | ((first | refine awp_region_draw' (m := 0) (by decide +kernel) [] (by kernel_rfl) (by decide +kernel) ?_); dsimp only [List.replicate, List.append_nil, List.cons_append, List.nil_append, List.length_cons, List.length_nil])
          | (refine awp_block ?_)
          | (refine awp_cond rfl (fun hcnd => ?_) (fun hcnd => ?_) <;> (try simp at hcnd) <;> (try contradiction) <;> (try (exfalso; omega)))
          | (refine awp_skip ?_)
          | (refine awp_exit ?_; simp only [athen_normal, athen_exit, athen_ret, ablock_self, ablock_ne, ablock_normal, ablock_ret, Nat.reduceBEq])
          | (refine awp_ret ?_; refine ret_go ?_)
          | (refine arun_no ?_ ?_; (focus (simp [hC]; done)); refine arun_slots (by first | (dsimp only [sput, sset]; done) | rfl) ?_)
          | ((first | refine arunD_nF rfl ?_ ?_ | refine arunD_nT rfl ?_ ?_); (focus (simp [hC]; done)); refine arunD_slots' (by first | (dsimp only [sput, sset]; done) | rfl) (by first | (dsimp only [List.tail]; done) | rfl) ?_)
          | (refine fall_go ?_)
          | (simp only [athen_normal, athen_exit, athen_ret, ablock_self, ablock_ne, ablock_normal, ablock_ret, Nat.reduceBEq])
          | (clear hK K; refine hK _ _ ?_; clear hK K)
          | (clear hK K; clear hK K; refine hK _ _ ?_; clear hK K)
          | (clear hK K; clear hK K; clear hK K; refine hK _ _ ?_; clear hK K)
          | (clear hK K; clear hK K; clear hK K; clear hK K; refine hK _ _ ?_; clear hK K)
          | (clear hK K; clear hK K; clear hK K; clear hK K; clear hK K; refine hK _ _ ?_; clear hK K))
        refine hL _ _ _ _ ?_ main
        exact Le.mk [some 0, some 1, some 2] (by simp) (rowsRen_of (by simp) (by simp [rowsOver, hC])) (by simp)

    by_cases hu0 : c.info.usage = 0
    · obtain rfl : L = true := by rw [← hLL]; simp [hu0]
      repeat' (first
        | ((first | refine arun_go0 rfl fun K9 h9 => ?_ | refine arunD_goF rfl rfl fun K9 h9 => ?_ | refine arunD_goT rfl rfl fun K9 h9 => ?_ | (refine arun_go ?_ ?_; (focus (simp [hu0]; done)); intro K9 h9) | ((first | refine arunD_gF rfl ?_ ?_ | refine arunD_gT rfl ?_ ?_); (focus (simp [hu0]; done)); intro K9 h9)); simp (disch := (first | (simp; done) | omega | (simp; omega))) [hu0]; (try simp (disch := (first | omega | (simp; omega))) only [wrap_i64, wrap_u8, wrap_u32, wrap_u64, Int.tmod_eq_emod_of_nonneg, Int.tdiv_eq_ediv_of_nonneg]); (first | refine ⟨_, h3, ?_⟩ | (refine aeffS_loadA (vs := [.int .i64 c.key.h, .str c.key.id, .str c.key.root]) rfl ?_ ?_ ?_ ?_ ?_; (focus (simp; done)); (focus (simp; done)); (focus (simp; done)); (focus (intro i v h; rcases i with _ | _ | _ | i <;> simp at h <;> subst h <;> simp))) | refine aeffS_load rfl (by simp) (by simp; rfl) ?_ | skip); (repeat (refine And.intro (by first | omega | (simp; first | done | omega) | assumption | (intro e9; have e8 := congrArg List.length e9; first | (simp at e8; done) | ((try simp only [List.length_map, List.length_append] at e8); rw [List.length_nil] at e8; omega))) ?_)); (first | refine h9 _ _ (arun_slots (by first | (dsimp only [sput, sset]; done) | rfl) ?_) | refine h9 _ _ (arunD_slots' (by first | (dsimp only [sput, sset]; done) | rfl) (by first | (dsimp only [List.tail]; done) | rfl) ?_)); clear h9 K9)
        | (refine arun_end ?_)
        | (refine arunD_end ?_)
        | (refine awp_seq fun K hK => ?_)
        | (refine awp_region ?_)
        | (refine hK _ _ ?_; clear hK K)
        | ((first | refine awp_region_drawF (m := 0) [(1, 7, .int .i64 c.key.h), (1, 8, .str c.key.id), (1, 9, .str c.key.root), (1, 13, .int .i64 c.info.usage)] (by simp) (by decide +kernel) [0, 0, 1, 0, 3, 0, 0, 0, 0, 0, 0, 0, 3] (by kernel_rfl) (by decide +kernel) ?_ | refine awp_region_draw' (m := 0) (by decide +kernel) [0, 0, 1, 0, 3, 0, 0, 0, 0, 0, 0, 0, 3] (by kernel_rfl) (by decide +kernel) ?_ | refine awp_region_draw' (m := 0) (by decide +kernel) [] (by kernel_rfl) (by decide +kernel) ?_); dsimp only [List.replicate, List.append_nil, List.cons_append, List.nil_append, List.length_cons, List.length_nil])
        | (refine awp_block ?_)
        | (refine awp_cond rfl (fun hcnd => ?_) (fun hcnd => ?_) <;> (try simp at hcnd) <;> (try contradiction) <;> (try (exfalso; omega)))
        | (refine awp_skip ?_)
        | (refine awp_exit ?_; simp only [athen_normal, athen_exit, athen_ret, ablock_self, ablock_ne, ablock_normal, ablock_ret, Nat.reduceBEq])
        | (refine awp_ret ?_; refine ret_go ?_)
        | (refine arun_no ?_ ?_; (focus (simp [hu0]; done)); refine arun_slots (by first | (dsimp only [sput, sset]; done) | rfl) ?_)
        | ((first | refine arunD_nF rfl ?_ ?_ | refine arunD_nT rfl ?_ ?_); (focus (simp [hu0]; done)); refine arunD_slots' (by first | (dsimp only [sput, sset]; done) | rfl) (by first | (dsimp only [List.tail]; done) | rfl) ?_)
        | (refine fall_go ?_)
        | (simp only [athen_normal, athen_exit, athen_ret, ablock_self, ablock_ne, ablock_normal, ablock_ret, Nat.reduceBEq])
        | (clear hK K; refine hK _ _ ?_; clear hK K)
        | (clear hK K; clear hK K; refine hK _ _ ?_; clear hK K)
        | (clear hK K; clear hK K; clear hK K; refine hK _ _ ?_; clear hK K)
        | (clear hK K; clear hK K; clear hK K; clear hK K; refine hK _ _ ?_; clear hK K)
        | (clear hK K; clear hK K; clear hK K; clear hK K; clear hK K; refine hK _ _ ?_; clear hK K))
      refine hL _ _ _ _ ?_ main
      exact Le.mk [some 0, some 1, some 2] (by simp) (rowsRen_of (by simp) (by simp [rowsOver, hu0])) (by simp)
    · obtain rfl : L = (bits .and .i64 c.info.usage 64 != 0) := by rw [← hLL]; simp [hu0]
      repeat' (first
        | ((first | refine arun_go0 rfl fun K9 h9 => ?_ | refine arunD_goF rfl rfl fun K9 h9 => ?_ | refine arunD_goT rfl rfl fun K9 h9 => ?_ | (refine arun_go ?_ ?_; (focus (simp [hu0]; done)); intro K9 h9) | ((first | refine arunD_gF rfl ?_ ?_ | refine arunD_gT rfl ?_ ?_); (focus (simp [hu0]; done)); intro K9 h9)); simp (disch := (first | (simp; done) | omega | (simp; omega))) [hu0]; (try simp (disch := (first | omega | (simp; omega))) only [wrap_i64, wrap_u8, wrap_u32, wrap_u64, Int.tmod_eq_emod_of_nonneg, Int.tdiv_eq_ediv_of_nonneg]); (first | refine ⟨_, h3, ?_⟩ | (refine aeffS_loadA (vs := [.int .i64 c.key.h, .str c.key.id, .str c.key.root]) rfl ?_ ?_ ?_ ?_ ?_; (focus (simp; done)); (focus (simp; done)); (focus (simp; done)); (focus (intro i v h; rcases i with _ | _ | _ | i <;> simp at h <;> subst h <;> simp))) | refine aeffS_load rfl (by simp) (by simp; rfl) ?_ | skip); (repeat (refine And.intro (by first | omega | (simp; first | done | omega) | assumption | (intro e9; have e8 := congrArg List.length e9; first | (simp at e8; done) | ((try simp only [List.length_map, List.length_append] at e8); rw [List.length_nil] at e8; omega))) ?_)); (first | refine h9 _ _ (arun_slots (by first | (dsimp only [sput, sset]; done) | rfl) ?_) | refine h9 _ _ (arunD_slots' (by first | (dsimp only [sput, sset]; done) | rfl) (by first | (dsimp only [List.tail]; done) | rfl) ?_)); clear h9 K9)
        | (refine arun_end ?_)
        | (refine arunD_end ?_)
        | (refine awp_seq fun K hK => ?_)
        | (refine awp_region ?_)
        | (refine hK _ _ ?_; clear hK K)
        | ((first | refine awp_region_drawF (m := 0) [(1, 7, .int .i64 c.key.h), (1, 8, .str c.key.id), (1, 9, .str c.key.root), (1, 13, .int .i64 c.info.usage)] (by simp) (by decide +kernel) [0, 0, 1, 0, 3, 0, 0, 0, 0, 0, 0, 0, 3] (by kernel_rfl) (by decide +kernel) ?_ | refine awp_region_draw' (m := 0) (by decide +kernel) [0, 0, 1, 0, 3, 0, 0, 0, 0, 0, 0, 0, 3] (by kernel_rfl) (by decide +kernel) ?_ | refine awp_region_draw' (m := 0) (by decide +kernel) [] (by kernel_rfl) (by decide +kernel) ?_); dsimp only [List.replicate, List.append_nil, List.cons_append, List.nil_append, List.length_cons, List.length_nil])
        | (refine awp_block ?_)
        | (refine awp_cond rfl (fun hcnd => ?_) (fun hcnd => ?_) <;> (try simp at hcnd) <;> (try contradiction) <;> (try (exfalso; omega)))
        | (refine awp_skip ?_)
        | (refine awp_exit ?_; simp only [athen_normal, athen_exit, athen_ret, ablock_self, ablock_ne, ablock_normal, ablock_ret, Nat.reduceBEq])
        | (refine awp_ret ?_; refine ret_go ?_)
        | (refine arun_no ?_ ?_; (focus (simp [hu0]; done)); refine arun_slots (by first | (dsimp only [sput, sset]; done) | rfl) ?_)
        | ((first | refine arunD_nF rfl ?_ ?_ | refine arunD_nT rfl ?_ ?_); (focus (simp [hu0]; done)); refine arunD_slots' (by first | (dsimp only [sput, sset]; done) | rfl) (by first | (dsimp only [List.tail]; done) | rfl) ?_)
        | (refine fall_go ?_)
        | (simp only [athen_normal, athen_exit, athen_ret, ablock_self, ablock_ne, ablock_normal, ablock_ret, Nat.reduceBEq])
        | (clear hK K; refine hK _ _ ?_; clear hK K)
        | (clear hK K; clear hK K; refine hK _ _ ?_; clear hK K)
        | (clear hK K; clear hK K; clear hK K; refine hK _ _ ?_; clear hK K)
        | (clear hK K; clear hK K; clear hK K; clear hK K; refine hK _ _ ?_; clear hK K)
        | (clear hK K; clear hK K; clear hK K; clear hK K; clear hK K; refine hK _ _ ?_; clear hK K))
      refine hL _ _ _ _ ?_ main
      exact Le.mk [some 0, some 1, some 2] (by simp) (rowsRen_of (by simp) (by simp [rowsOver])) (by simp)

  cases B
  · have hlt : ¬ s.len < 1 := fun e => hB ⟨rfl, e⟩
    by_cases hu1 : c.info.usage = 0
    · repeat' (first
        | ((first | refine arunU_go0 rfl fun K9 h9 => ?_ | refine arunD_goF rfl rfl fun K9 h9 => ?_ | refine arunD_goT rfl rfl fun K9 h9 => ?_ | (refine arunU_go ?_ ?_; (focus (simp [hlt, hu1]; done)); intro K9 h9) | ((first | refine arunD_gF rfl ?_ ?_ | refine arunD_gT rfl ?_ ?_); (focus (simp [hlt, hu1]; done)); intro K9 h9)); simp (disch := (first | (simp; done) | omega | (simp; omega))) [hlt, hu1]; (try simp (disch := (first | omega | (simp; omega))) only [wrap_i64, wrap_u8, wrap_u32, wrap_u64, Int.tmod_eq_emod_of_nonneg, Int.tdiv_eq_ediv_of_nonneg]); (first | refine acall_pure (h2) (by simp) ?_ | skip); (repeat (refine And.intro (by first | omega | (simp; first | done | omega) | assumption | (intro e9; have e8 := congrArg List.length e9; first | (simp at e8; done) | ((try simp only [List.length_map, List.length_append] at e8); rw [List.length_nil] at e8; omega))) ?_)); (first | refine h9 _ _ (arunU_slots (by first | (dsimp only [sput, sset]; done) | rfl) ?_) | refine h9 _ _ (arunD_slots' (by first | (dsimp only [sput, sset]; done) | rfl) (by first | (dsimp only [List.tail]; done) | rfl) ?_)); clear h9 K9)
        | (refine arunU_end ?_)
        | (refine arunD_end ?_)
        | (refine awp_seq fun K hK => ?_)
        | (refine awp_regionU ?_)
        | (refine hK _ _ ?_; clear hK K)
        | ((first | refine awp_region_draw' (m := 0) (by decide +kernel) [] (by kernel_rfl) (by decide +kernel) ?_); dsimp only [List.replicate, List.append_nil, List.cons_append, List.nil_append, List.length_cons, List.length_nil])
        | (refine awp_block ?_)
        | (refine awp_cond rfl (fun hcnd => ?_) (fun hcnd => ?_) <;> (try simp at hcnd) <;> (try contradiction) <;> (try (exfalso; omega)))
        | (refine awp_skip ?_)
        | (refine awp_exit ?_; simp only [athen_normal, athen_exit, athen_ret, ablock_self, ablock_ne, ablock_normal, ablock_ret, Nat.reduceBEq])
        | (refine awp_ret ?_; refine ret_go ?_)
        | (refine arunU_no ?_ ?_; (focus (simp [hlt, hu1]; done)); refine arunU_slots (by first | (dsimp only [sput, sset]; done) | rfl) ?_)
        | ((first | refine arunD_nF rfl ?_ ?_ | refine arunD_nT rfl ?_ ?_); (focus (simp [hlt, hu1]; done)); refine arunD_slots' (by first | (dsimp only [sput, sset]; done) | rfl) (by first | (dsimp only [List.tail]; done) | rfl) ?_)
        | (refine fall_go ?_)
        | (simp only [athen_normal, athen_exit, athen_ret, ablock_self, ablock_ne, ablock_normal, ablock_ret, Nat.reduceBEq])
        | (clear hK K; refine hK _ _ ?_; clear hK K)
        | (clear hK K; clear hK K; refine hK _ _ ?_; clear hK K)
        | (clear hK K; clear hK K; clear hK K; refine hK _ _ ?_; clear hK K)
        | (clear hK K; clear hK K; clear hK K; clear hK K; refine hK _ _ ?_; clear hK K)
        | (clear hK K; clear hK K; clear hK K; clear hK K; clear hK K; refine hK _ _ ?_; clear hK K))
      refine hL _ _ _ _ ?_ main
      exact Le.mk [some 0, some 1, some 2] (by simp) (rowsRen_of (by simp) (by simp [rowsOver, hu1])) (by simp)
    · have hu2 : ¬ bits .and .i64 c.info.usage 32 = 0 := fun e => hu ⟨hu1, e⟩
      repeat' (first
        | ((first | refine arunU_go0 rfl fun K9 h9 => ?_ | refine arunD_goF rfl rfl fun K9 h9 => ?_ | refine arunD_goT rfl rfl fun K9 h9 => ?_ | (refine arunU_go ?_ ?_; (focus (simp [hlt, hu1, hu2]; done)); intro K9 h9) | ((first | refine arunD_gF rfl ?_ ?_ | refine arunD_gT rfl ?_ ?_); (focus (simp [hlt, hu1, hu2]; done)); intro K9 h9)); simp (disch := (first | (simp; done) | omega | (simp; omega))) [hlt, hu1, hu2]; (try simp (disch := (first | omega | (simp; omega))) only [wrap_i64, wrap_u8, wrap_u32, wrap_u64, Int.tmod_eq_emod_of_nonneg, Int.tdiv_eq_ediv_of_nonneg]); (first | refine acall_pure (h2) (by simp) ?_ | skip); (repeat (refine And.intro (by first | omega | (simp; first | done | omega) | assumption | (intro e9; have e8 := congrArg List.length e9; first | (simp at e8; done) | ((try simp only [List.length_map, List.length_append] at e8); rw [List.length_nil] at e8; omega))) ?_)); (first | refine h9 _ _ (arunU_slots (by first | (dsimp only [sput, sset]; done) | rfl) ?_) | refine h9 _ _ (arunD_slots' (by first | (dsimp only [sput, sset]; done) | rfl) (by first | (dsimp only [List.tail]; done) | rfl) ?_)); clear h9 K9)
        | (refine arunU_end ?_)
        | (refine arunD_end ?_)
        | (refine awp_seq fun K hK => ?_)
        | (refine awp_regionU ?_)
        | (refine hK _ _ ?_; clear hK K)
        | ((first | refine awp_region_draw' (m := 0) (by decide +kernel) [] (by kernel_rfl) (by decide +kernel) ?_); dsimp only [List.replicate, List.append_nil, List.cons_append, List.nil_append, List.length_cons, List.length_nil])
        | (refine awp_block ?_)
        | (refine awp_cond rfl (fun hcnd => ?_) (fun hcnd => ?_) <;> (try simp at hcnd) <;> (try contradiction) <;> (try (exfalso; omega)))
        | (refine awp_skip ?_)
        | (refine awp_exit ?_; simp only [athen_normal, athen_exit, athen_ret, ablock_self, ablock_ne, ablock_normal, ablock_ret, Nat.reduceBEq])
        | (refine awp_ret ?_; refine ret_go ?_)
        | (refine arunU_no ?_ ?_; (focus (simp [hlt, hu1, hu2]; done)); refine arunU_slots (by first | (dsimp only [sput, sset]; done) | rfl) ?_)
        | ((first | refine arunD_nF rfl ?_ ?_ | refine arunD_nT rfl ?_ ?_); (focus (simp [hlt, hu1, hu2]; done)); refine arunD_slots' (by first | (dsimp only [sput, sset]; done) | rfl) (by first | (dsimp only [List.tail]; done) | rfl) ?_)
        | (refine fall_go ?_)
        | (simp only [athen_normal, athen_exit, athen_ret, ablock_self, ablock_ne, ablock_normal, ablock_ret, Nat.reduceBEq])
        | (clear hK K; refine hK _ _ ?_; clear hK K)
        | (clear hK K; clear hK K; refine hK _ _ ?_; clear hK K)
        | (clear hK K; clear hK K; clear hK K; refine hK _ _ ?_; clear hK K)
        | (clear hK K; clear hK K; clear hK K; clear hK K; refine hK _ _ ?_; clear hK K)
        | (clear hK K; clear hK K; clear hK K; clear hK K; clear hK K; refine hK _ _ ?_; clear hK K))
      refine hL _ _ _ _ ?_ main
      exact Le.mk [some 0, some 1, some 2] (by simp) (rowsRen_of (by simp) (by simp [rowsOver])) (by simp)
  · by_cases hu1 : c.info.usage = 0
    · repeat' (first
        | ((first | refine arunU_go0 rfl fun K9 h9 => ?_ | refine arunD_goF rfl rfl fun K9 h9 => ?_ | refine arunD_goT rfl rfl fun K9 h9 => ?_ | (refine arunU_go ?_ ?_; (focus (simp [hu1]; done)); intro K9 h9) | ((first | refine arunD_gF rfl ?_ ?_ | refine arunD_gT rfl ?_ ?_); (focus (simp [hu1]; done)); intro K9 h9)); simp (disch := (first | (simp; done) | omega | (simp; omega))) [hu1]; (try simp (disch := (first | omega | (simp; omega))) only [wrap_i64, wrap_u8, wrap_u32, wrap_u64, Int.tmod_eq_emod_of_nonneg, Int.tdiv_eq_ediv_of_nonneg]); (first | refine acall_pure (h2) (by simp) ?_ | skip); (repeat (refine And.intro (by first | omega | (simp; first | done | omega) | assumption | (intro e9; have e8 := congrArg List.length e9; first | (simp at e8; done) | ((try simp only [List.length_map, List.length_append] at e8); rw [List.length_nil] at e8; omega))) ?_)); (first | refine h9 _ _ (arunU_slots (by first | (dsimp only [sput, sset]; done) | rfl) ?_) | refine h9 _ _ (arunD_slots' (by first | (dsimp only [sput, sset]; done) | rfl) (by first | (dsimp only [List.tail]; done) | rfl) ?_)); clear h9 K9)
        | (refine arunU_end ?_)
        | (refine arunD_end ?_)
        | (refine awp_seq fun K hK => ?_)
        | (refine awp_regionU ?_)
        | (refine hK _ _ ?_; clear hK K)
        | ((first | refine awp_region_draw' (m := 0) (by decide +kernel) [] (by kernel_rfl) (by decide +kernel) ?_); dsimp only [List.replicate, List.append_nil, List.cons_append, List.nil_append, List.length_cons, List.length_nil])
        | (refine awp_block ?_)
        | (refine awp_cond rfl (fun hcnd => ?_) (fun hcnd => ?_) <;> (try simp at hcnd) <;> (try contradiction) <;> (try (exfalso; omega)))
        | (refine awp_skip ?_)
        | (refine awp_exit ?_; simp only [athen_normal, athen_exit, athen_ret, ablock_self, ablock_ne, ablock_normal, ablock_ret, Nat.reduceBEq])
        | (refine awp_ret ?_; refine ret_go ?_)
        | (refine arunU_no ?_ ?_; (focus (simp [hu1]; done)); refine arunU_slots (by first | (dsimp only [sput, sset]; done) | rfl) ?_)
        | ((first | refine arunD_nF rfl ?_ ?_ | refine arunD_nT rfl ?_ ?_); (focus (simp [hu1]; done)); refine arunD_slots' (by first | (dsimp only [sput, sset]; done) | rfl) (by first | (dsimp only [List.tail]; done) | rfl) ?_)
        | (refine fall_go ?_)
        | (simp only [athen_normal, athen_exit, athen_ret, ablock_self, ablock_ne, ablock_normal, ablock_ret, Nat.reduceBEq])
        | (clear hK K; refine hK _ _ ?_; clear hK K)
        | (clear hK K; clear hK K; refine hK _ _ ?_; clear hK K)
        | (clear hK K; clear hK K; clear hK K; refine hK _ _ ?_; clear hK K)
        | (clear hK K; clear hK K; clear hK K; clear hK K; refine hK _ _ ?_; clear hK K)
        | (clear hK K; clear hK K; clear hK K; clear hK K; clear hK K; refine hK _ _ ?_; clear hK K))
      refine hL _ _ _ _ ?_ main
      exact Le.mk [some 0, some 1, some 2] (by simp) (rowsRen_of (by simp) (by simp [rowsOver, hu1])) (by simp)
    · have hu2 : ¬ bits .and .i64 c.info.usage 32 = 0 := fun e => hu ⟨hu1, e⟩
      repeat' (first
        | ((first | refine arunU_go0 rfl fun K9 h9 => ?_ | refine arunD_goF rfl rfl fun K9 h9 => ?_ | refine arunD_goT rfl rfl fun K9 h9 => ?_ | (refine arunU_go ?_ ?_; (focus (simp [hu1, hu2]; done)); intro K9 h9) | ((first | refine arunD_gF rfl ?_ ?_ | refine arunD_gT rfl ?_ ?_); (focus (simp [hu1, hu2]; done)); intro K9 h9)); simp (disch := (first | (simp; done) | omega | (simp; omega))) [hu1, hu2]; (try simp (disch := (first | omega | (simp; omega))) only [wrap_i64, wrap_u8, wrap_u32, wrap_u64, Int.tmod_eq_emod_of_nonneg, Int.tdiv_eq_ediv_of_nonneg]); (first | refine acall_pure (h2) (by simp) ?_ | skip); (repeat (refine And.intro (by first | omega | (simp; first | done | omega) | assumption | (intro e9; have e8 := congrArg List.length e9; first | (simp at e8; done) | ((try simp only [List.length_map, List.length_append] at e8); rw [List.length_nil] at e8; omega))) ?_)); (first | refine h9 _ _ (arunU_slots (by first | (dsimp only [sput, sset]; done) | rfl) ?_) | refine h9 _ _ (arunD_slots' (by first | (dsimp only [sput, sset]; done) | rfl) (by first | (dsimp only [List.tail]; done) | rfl) ?_)); clear h9 K9)
        | (refine arunU_end ?_)
        | (refine arunD_end ?_)
        | (refine awp_seq fun K hK => ?_)
        | (refine awp_regionU ?_)
        | (refine hK _ _ ?_; clear hK K)
        | ((first | refine awp_region_draw' (m := 0) (by decide +kernel) [] (by kernel_rfl) (by decide +kernel) ?_); dsimp only [List.replicate, List.append_nil, List.cons_append, List.nil_append, List.length_cons, List.length_nil])
        | (refine awp_block ?_)
        | (refine awp_cond rfl (fun hcnd => ?_) (fun hcnd => ?_) <;> (try simp at hcnd) <;> (try contradiction) <;> (try (exfalso; omega)))
        | (refine awp_skip ?_)
        | (refine awp_exit ?_; simp only [athen_normal, athen_exit, athen_ret, ablock_self, ablock_ne, ablock_normal, ablock_ret, Nat.reduceBEq])
        | (refine awp_ret ?_; refine ret_go ?_)
        | (refine arunU_no ?_ ?_; (focus (simp [hu1, hu2]; done)); refine arunU_slots (by first | (dsimp only [sput, sset]; done) | rfl) ?_)
        | ((first | refine arunD_nF rfl ?_ ?_ | refine arunD_nT rfl ?_ ?_); (focus (simp [hu1, hu2]; done)); refine arunD_slots' (by first | (dsimp only [sput, sset]; done) | rfl) (by first | (dsimp only [List.tail]; done) | rfl) ?_)
        | (refine fall_go ?_)
        | (simp only [athen_normal, athen_exit, athen_ret, ablock_self, ablock_ne, ablock_normal, ablock_ret, Nat.reduceBEq])
        | (clear hK K; refine hK _ _ ?_; clear hK K)
        | (clear hK K; clear hK K; refine hK _ _ ?_; clear hK K)
        | (clear hK K; clear hK K; clear hK K; refine hK _ _ ?_; clear hK K)
        | (clear hK K; clear hK K; clear hK K; clear hK K; refine hK _ _ ?_; clear hK K)
        | (clear hK K; clear hK K; clear hK K; clear hK K; clear hK K; refine hK _ _ ?_; clear hK K))
      refine hL _ _ _ _ ?_ main
      exact Le.mk [some 0, some 1, some 2] (by simp) (rowsRen_of (by simp) (by simp [rowsOver])) (by simp)

  · simp

theorem leave_call (s : Pg) (c : Ce) (w : WLv s c) : PCall Try.prog 23 [.agg s.c, .agg c.c] (.tup [.agg (leaveS s c).c, .int .i64 (leaveK s c)]) := by
  by_cases h : leaveK s c = 0
  · have := leave_main s c w h
    rw [h, show leaveS s c = leaveP s c by simp [leaveS, h]]
    exact this
  · have := leave_early s c w h
    rw [show leaveS s c = zeroPg by simp [leaveS, h]]
    exact this
end Go.Proofs.Ytjlifjmjnhdcmaa
namespace Go.Proofs.Ytjlifjmjnhdcmaa
open Go.VS Go.Stp
set_option linter.all false
set_option maxRecDepth 100000
set_option maxHeartbeats 8000000
attribute [local irreducible] arun arunD arunU AWp aend bits

theorem certf0_call (a b : Nat) (ca : Bool) (ha : a < 8) (hb : b < 8) : MCall Try.prog 19 [.ref 0 0, .int .i64 a, .int .i64 b, .bool ca] (dk [] 0) (dk [] 0) (.agg (ce0 a b ca).c) := by
  have n5 : MCall Try.prog 10 [.ref 0 0, .int .i64 5] (dk [] 0) (dk [] 0) (.int .i64 0) := next_nil 5 (by omega) (by omega)
  have nm1 := named_call a ha
  have nm2 := named_call b hb
  have au1 := auth_call (namedN a) (namedN_lt a ha)
  have au2 := auth_call (namedN b) (namedN_lt b hb)
  have pb : PCall Try.prog 34 [.int .i64 b] (.agg [.int .i64 (pubK b).h, .str (pubK b).id, .str (pubK b).root]) := public_call b hb
  have nn : PCall Try.prog 44 [] (.agg [.bool false, .bool false, .int .i64 (-1), .int .i64 0, strV [], strV [], mpsV [], .int .i64 (-1), .int .i64 (-1), .int .i64 (-1), gnsV [], .bool false, gnsV [], gnsV [], .str [], .str [], ptsV [], ptsV [], exsV []]) := none_call
  have ht := times_nil
  have hp := dk_pures [] 0
  show MCall _ _ _ _ _ (.agg [.str [], .str [], .int .i64 1, nmV (authN (namedN a)), nmV (authN (namedN b)), .int .i64 2000, .int .i64 2000, .int .i64 (pubK b).h, .str (pubK b).id, .str (pubK b).root, .bool ca, .bool ca, .int .i64 (-1), .int .i64 0, strV [], strV [], mpsV [], .int .i64 (-1), .int .i64 (-1), .int .i64 (-1), gnsV [], .bool false, gnsV [], gnsV [], .str [], .str [], ptsV [], ptsV [], exsV [], .str []])
  generalize dk [] 0 = D at *
  have p1 := nmV_pure (authN (namedN a))
  have o1 := nmV_one (authN (namedN a))
  have p2 := nmV_pure (authN (namedN b))
  have o2 := nmV_one (authN (namedN b))
  generalize nmV (authN (namedN a)) = A at *
  generalize nmV (authN (namedN b)) = B at *
  generalize pubK b = KY at *
  refine mcall_body Try.func19 rfl Try.call19 ?_ ?_ ?_
  rotate_left 2
  refine awp_slots (s' := [(.ref 0 0 : V), (.int .i64 a : V), (.int .i64 b : V), (.bool ca : V), .junk, .junk, .junk, .junk, .junk, .junk, .junk, .junk, .junk, .junk, .junk, .junk, .junk, .junk, .junk, .junk, .junk, .junk, .junk, .junk, .junk, .junk, .junk, .junk, .junk, .junk, .junk, .junk, .junk, .junk, .junk, .junk, .junk, .junk, .junk, .junk, .junk, .junk, .junk, .junk, .junk, .junk, .junk, .junk, .junk, .junk, .junk, .junk, .junk, .junk, .junk, .junk, .junk, .junk, .junk]) rfl ?_
  repeat' (first
    | (refine arun_go0 rfl fun K9 h9 => ?_; simp (disch := (first | (simp; done) | omega | (simp; omega))) [p1, o1, p2, o2]; (try simp (disch := (first | omega | (simp; omega))) only [wrap_i64, wrap_u8, wrap_u32, wrap_u64, Int.tmod_eq_emod_of_nonneg, Int.tdiv_eq_ediv_of_nonneg]); (first | refine acall_mutd n5 rfl hp hp .int (by simp) ?_ | refine acall_pure (nm1) (by simp) ?_ | refine acall_pure (nm2) (by simp) ?_ | refine acall_pure (au1) (by simp) ?_ | refine acall_pure (au2) (by simp) ?_ | refine acall_pure (pb) (by simp) ?_ | refine acall_pure (nn) (by simp) ?_ | refine acall_mutd ht rfl hp hp (by simp) (by simp) ?_ | skip); (repeat (refine And.intro (by first | omega | (simp; first | done | omega) | assumption | (intro e9; have e8 := congrArg List.length e9; first | (simp at e8; done) | ((try simp only [List.length_map, List.length_append] at e8); rw [List.length_nil] at e8; omega))) ?_)); (first | refine h9 _ _ (arun_slots (by first | (dsimp only [sput, sset]; done) | rfl) ?_)); clear h9 K9)
    | (refine arun_end ?_)
    | (refine awp_seq fun K hK => ?_)
    | (refine awp_region ?_)
    | (refine hK _ _ ?_; clear hK K)
    | (refine awp_block ?_)
    | (refine awp_cond rfl (fun hcnd => ?_) (fun hcnd => ?_) <;> (try simp at hcnd) <;> (try contradiction) <;> (try (exfalso; omega)))
    | (refine awp_skip ?_)
    | (refine awp_exit ?_; simp only [athen_normal, athen_exit, athen_ret, ablock_self, ablock_ne, ablock_normal, ablock_ret, Nat.reduceBEq])
    | (refine awp_ret ?_; refine ret_go ?_)
    | (refine fall_go ?_)
    | (simp only [athen_normal, athen_exit, athen_ret, ablock_self, ablock_ne, ablock_normal, ablock_ret, Nat.reduceBEq])
    | (clear hK K; refine hK _ _ ?_; clear hK K)
    | (clear hK K; clear hK K; refine hK _ _ ?_; clear hK K)
    | (clear hK K; clear hK K; clear hK K; refine hK _ _ ?_; clear hK K)
    | (clear hK K; clear hK K; clear hK K; clear hK K; refine hK _ _ ?_; clear hK K)
    | (clear hK K; clear hK K; clear hK K; clear hK K; clear hK K; refine hK _ _ ?_; clear hK K))
  · refine awp_countU (fun i => [none, some V.junk, some V.junk, some V.junk, none, none, none, none, none, none, none, some (V.int .i64 0), some V.junk, some V.junk, some V.junk, some V.junk, some V.junk, some V.junk, some V.junk, some V.junk, some V.junk, some V.junk, some V.junk, some V.junk, some V.junk, some V.junk, some V.junk, some V.junk, some V.junk, some V.junk, some V.junk, some V.junk, some V.junk, some V.junk, some V.junk, some V.junk, some V.junk, some V.junk, some V.junk, some V.junk, some V.junk, some V.junk, some V.junk, some V.junk, some V.junk, some V.junk, some V.junk, some V.junk, some V.junk, some V.junk, some V.junk, some V.junk, some V.junk, some V.junk, some V.junk, some V.junk, some V.junk, some V.junk, some V.junk]) (fun i => [.live D, .live [.str [], .str [], .int .i64 0, .nils, .nils, .int .i64 0, .int .i64 0, .int .i64 0, .str [], .str [], .bool false, .bool false, .int .i64 0, .int .i64 0, .nils, .nils, .nils, .int .i64 0, .int .i64 0, .int .i64 0, .nils, .bool false, .nils, .nils, .str [], .str [], .nils, .nils, .nils, .str []], .live [.str [], .str [], .int .i64 1, A, B, .int .i64 2000, .int .i64 2000, .int .i64 KY.h, .str KY.id, .str KY.root, .bool ca, .bool ca, .int .i64 (-1), .int .i64 0, strV [], strV [], mpsV [], .int .i64 (-1), .int .i64 (-1), .int .i64 (-1), gnsV [], .bool false, gnsV [], gnsV [], .str [], .str [], ptsV [], ptsV [], exsV [], .str []]]) 0 ?_ fun i hi KL hL => ?_
    · dsimp only [ups_some, ups_none, ups_nil, ups_nil']
      exact Le.mk [some 0, some 1, some 2] (by simp) (rowsRen_of (by simp) (by simp [rowsOver, rowRen_live, rens_pures hp, p1, p2])) (by simp)
    dsimp only [ups_some, ups_none, ups_nil, ups_nil']
    cases ca
    · repeat' (first
        | (refine arun_go0 rfl fun K9 h9 => ?_; simp (disch := (first | (simp; done) | omega | (simp; omega))) [p1, o1, p2, o2]; (try simp (disch := (first | omega | (simp; omega))) only [wrap_i64, wrap_u8, wrap_u32, wrap_u64, Int.tmod_eq_emod_of_nonneg, Int.tdiv_eq_ediv_of_nonneg]); (repeat (refine And.intro (by first | omega | (simp; first | done | omega) | assumption | (intro e9; have e8 := congrArg List.length e9; first | (simp at e8; done) | ((try simp only [List.length_map, List.length_append] at e8); rw [List.length_nil] at e8; omega))) ?_)); (first | refine h9 _ _ (arun_slots (by first | (dsimp only [sput, sset]; done) | rfl) ?_)); clear h9 K9)
        | (refine arun_end ?_)
        | (refine awp_seq fun K hK => ?_)
        | (refine awp_region ?_)
        | (refine hK _ _ ?_; clear hK K)
        | (refine awp_block ?_)
        | (refine awp_cond rfl (fun hcnd => ?_) (fun hcnd => ?_) <;> (try simp at hcnd) <;> (try contradiction) <;> (try (exfalso; omega)))
        | (refine awp_skip ?_)
        | (refine awp_exit ?_; simp only [athen_normal, athen_exit, athen_ret, ablock_self, ablock_ne, ablock_normal, ablock_ret, Nat.reduceBEq])
        | (refine awp_ret ?_; refine ret_go ?_)
        | (refine fall_go ?_)
        | (simp only [athen_normal, athen_exit, athen_ret, ablock_self, ablock_ne, ablock_normal, ablock_ret, Nat.reduceBEq])
        | (clear hK K; refine hK _ _ ?_; clear hK K)
        | (clear hK K; clear hK K; refine hK _ _ ?_; clear hK K)
        | (clear hK K; clear hK K; clear hK K; refine hK _ _ ?_; clear hK K)
        | (clear hK K; clear hK K; clear hK K; clear hK K; refine hK _ _ ?_; clear hK K)
        | (clear hK K; clear hK K; clear hK K; clear hK K; clear hK K; refine hK _ _ ?_; clear hK K))
      all_goals (simp; exact mend_plain)
    · repeat' (first
        | (refine arun_go0 rfl fun K9 h9 => ?_; simp (disch := (first | (simp; done) | omega | (simp; omega))) [p1, o1, p2, o2]; (try simp (disch := (first | omega | (simp; omega))) only [wrap_i64, wrap_u8, wrap_u32, wrap_u64, Int.tmod_eq_emod_of_nonneg, Int.tdiv_eq_ediv_of_nonneg]); (repeat (refine And.intro (by first | omega | (simp; first | done | omega) | assumption | (intro e9; have e8 := congrArg List.length e9; first | (simp at e8; done) | ((try simp only [List.length_map, List.length_append] at e8); rw [List.length_nil] at e8; omega))) ?_)); (first | refine h9 _ _ (arun_slots (by first | (dsimp only [sput, sset]; done) | rfl) ?_)); clear h9 K9)
        | (refine arun_end ?_)
        | (refine awp_seq fun K hK => ?_)
        | (refine awp_region ?_)
        | (refine hK _ _ ?_; clear hK K)
        | (refine awp_block ?_)
        | (refine awp_cond rfl (fun hcnd => ?_) (fun hcnd => ?_) <;> (try simp at hcnd) <;> (try contradiction) <;> (try (exfalso; omega)))
        | (refine awp_skip ?_)
        | (refine awp_exit ?_; simp only [athen_normal, athen_exit, athen_ret, ablock_self, ablock_ne, ablock_normal, ablock_ret, Nat.reduceBEq])
        | (refine awp_ret ?_; refine ret_go ?_)
        | (refine fall_go ?_)
        | (simp only [athen_normal, athen_exit, athen_ret, ablock_self, ablock_ne, ablock_normal, ablock_ret, Nat.reduceBEq])
        | (clear hK K; refine hK _ _ ?_; clear hK K)
        | (clear hK K; clear hK K; refine hK _ _ ?_; clear hK K)
        | (clear hK K; clear hK K; clear hK K; refine hK _ _ ?_; clear hK K)
        | (clear hK K; clear hK K; clear hK K; clear hK K; refine hK _ _ ?_; clear hK K)
        | (clear hK K; clear hK K; clear hK K; clear hK K; clear hK K; refine hK _ _ ?_; clear hK K))
      all_goals (simp; exact mend_plain)
  · simp [p1, p2]
  · exact hp

theorem newO_call (x : Int) : GCall Try.prog 8 [.osl 0 0 1 1] [[.int .i64 x]] ([[.int .i64 x]] ++ [[.osl 0 0 1 1, .int .i64 0]]) (.ref 1 0) := by
  refine gcall_body Try.func8 rfl Try.call8 ?_
  refine awp_slots (s' := [(.osl 0 0 1 1 : V), .junk, .junk, .junk, .junk, .junk]) rfl ?_
  refine awp_rows (rows' := [.live [.int .i64 x]]) rfl ?_
  repeat' (first
    | (refine arun_go0 rfl fun K9 h9 => ?_; simp (disch := (first | (simp; done) | omega | (simp; omega))) ; (try simp (disch := (first | omega | (simp; omega))) only [wrap_i64, wrap_u8, wrap_u32, wrap_u64, Int.tmod_eq_emod_of_nonneg, Int.tdiv_eq_ediv_of_nonneg]); (repeat (refine And.intro (by first | omega | (simp; first | done | omega) | assumption | (intro e9; have e8 := congrArg List.length e9; first | (simp at e8; done) | ((try simp only [List.length_map, List.length_append] at e8); rw [List.length_nil] at e8; omega))) ?_)); (first | refine h9 _ _ (arun_slots (by first | (dsimp only [sput, sset]; done) | rfl) ?_)); clear h9 K9)
    | (refine arun_end ?_)
    | (refine awp_seq fun K hK => ?_)
    | (refine awp_region ?_)
    | (refine hK _ _ ?_; clear hK K)
    | (refine awp_ret ?_; refine ret_go ?_)
    | (refine fall_go ?_)
    | (simp only [athen_normal, athen_exit, athen_ret, ablock_self, ablock_ne, ablock_normal, ablock_ret, Nat.reduceBEq])
    | (clear hK K; refine hK _ _ ?_; clear hK K)
    | (clear hK K; clear hK K; refine hK _ _ ?_; clear hK K)
    | (clear hK K; clear hK K; clear hK K; refine hK _ _ ?_; clear hK K)
    | (clear hK K; clear hK K; clear hK K; clear hK K; refine hK _ _ ?_; clear hK K)
    | (clear hK K; clear hK K; clear hK K; clear hK K; clear hK K; refine hK _ _ ?_; clear hK K))
  simp
  exact Le.mk [some 0, some 1] (by simp) (rowsRen_of (by simp) (by simp [rowsOver, rowRen_live])) (by simp)
theorem nextO_call (x : Int) (n : Nat) (hx : -9223372036854775808 ≤ x ∧ x ≤ 9223372036854775807) (hn : 0 < n) (hn2 : n ≤ 1099511627776) :
    GCall Try.prog 10 [.ref 1 0, .int .i64 n] [[.int .i64 x], [.osl 0 0 1 1, .int .i64 0]] ([[.int .i64 x], [.osl 0 0 1 1, .int .i64 1]] ++ []) (.int .i64 (dkX [x] 0 n)) := by
  refine gcall_body Try.func10 rfl Try.call10 ?_
  refine awp_slots (s' := [(.ref 1 0 : V), (.int .i64 n : V), .junk, .junk, .junk, .junk, .junk, .junk, .junk, .junk, .junk, .junk, .junk, .junk, .junk, .junk, .junk, .junk, .junk, .junk, .junk, .junk, .junk, .junk, .junk, .junk, .junk, .junk, .junk, .junk, .junk, .junk, .junk, .junk, .junk, .junk, .junk, .junk, .junk]) rfl ?_
  refine awp_rows (rows' := [.live [.int .i64 x], .live [.osl 0 0 1 1, .int .i64 0]]) rfl ?_
  have hb := tmod_bounds (x := x) hn
  have e : dkX [x] 0 n = x.tmod n % n := by
    have : dkX [x] 0 n = (x.tmod n + n).tmod n := by simp [dkX]
    rw [this, Int.tmod_eq_emod_of_nonneg (by omega)]
    simp
  rw [e]
  repeat' (first
    | ((first | refine arun_go0 rfl fun K9 h9 => ?_ | refine arunD_goF rfl rfl fun K9 h9 => ?_ | refine arunD_goT rfl rfl fun K9 h9 => ?_); simp (disch := (first | (simp; done) | omega | (simp; omega))) ; (try simp (disch := (first | omega | (simp; omega))) only [wrap_i64, wrap_u8, wrap_u32, wrap_u64, Int.tmod_eq_emod_of_nonneg, Int.tdiv_eq_ediv_of_nonneg]); (repeat (refine And.intro (by first | omega | (simp; first | done | omega) | assumption | (intro e9; have e8 := congrArg List.length e9; first | (simp at e8; done) | ((try simp only [List.length_map, List.length_append] at e8); rw [List.length_nil] at e8; omega))) ?_)); (first | refine h9 _ _ (arun_slots (by first | (dsimp only [sput, sset]; done) | rfl) ?_) | refine h9 _ _ (arunD_slots' (by first | (dsimp only [sput, sset]; done) | rfl) (by first | (dsimp only [List.tail]; done) | rfl) ?_)); clear h9 K9)
    | (refine arun_end ?_)
    | (refine arunD_end ?_)
    | (refine awp_seq fun K hK => ?_)
    | (refine awp_region ?_)
    | (refine hK _ _ ?_; clear hK K)
    | ((first | refine awp_region_draw' (m := 0) (by decide +kernel) [] (by kernel_rfl) (by decide +kernel) ?_ | refine awp_region_draw' (m := 0) (by decide +kernel) [] (by kernel_rfl) (by decide +kernel) ?_); dsimp only [List.replicate, List.append_nil, List.cons_append, List.nil_append, List.length_cons, List.length_nil])
    | (refine awp_cond rfl (fun hcnd => ?_) (fun hcnd => ?_) <;> (try simp at hcnd) <;> (try contradiction) <;> (try (exfalso; omega)))
    | (refine awp_skip ?_)
    | (refine awp_ret ?_; refine ret_go ?_)
    | (refine fall_go ?_)
    | (simp only [athen_normal, athen_exit, athen_ret, ablock_self, ablock_ne, ablock_normal, ablock_ret, Nat.reduceBEq])
    | (clear hK K; refine hK _ _ ?_; clear hK K)
    | (clear hK K; clear hK K; refine hK _ _ ?_; clear hK K)
    | (clear hK K; clear hK K; clear hK K; refine hK _ _ ?_; clear hK K)
    | (clear hK K; clear hK K; clear hK K; clear hK K; refine hK _ _ ?_; clear hK K)
    | (clear hK K; clear hK K; clear hK K; clear hK K; clear hK K; refine hK _ _ ?_; clear hK K))
  all_goals (simp; exact Le.mk [some 0, some 1] (by simp) (rowsRen_of (by simp) (by simp [rowsOver, rowRen_live])) (fun j hj => by match j, hj with | 0, _ => rfl | 1, _ => rfl | j + 2, hj => exact absurd (show j + 2 < 2 from hj) (by omega)))
end Go.Proofs.Ytjlifjmjnhdcmaa
namespace Go.Proofs.Ytjlifjmjnhdcmaa
open Go.VS Go.Stp
set_option linter.all false
set_option maxRecDepth 100000
set_option maxHeartbeats 8000000
attribute [local irreducible] arun arunD arunU AWp aend bits

def q0 : Qu := ⟨0, [], 0, [], false, false, false, [], 0, false, []⟩
def cA : Ce := ⟨[], [], 0, authN 0, authN 1, 0, 0, ⟨0, [], []⟩, { noneI with ca := true }, []⟩
def cB : Ce := { cA with subject := authN 8 }
def sA : Pg := beginS (anc 0) q0
def sB : Pg := { sA with len := 0 }
theorem authN_wn (k : Nat) : WN (authN k) := by
  unfold WN authN authV
  by_cases h : k % 2 = 1 <;> by_cases h8 : 8 ≤ k % 16 <;> simp [h, h8]
theorem leaveK_AA : leaveK sA cA = 0 := by decide +kernel
theorem leaveK_BA : leaveK sB cA = 10 := by decide +kernel
theorem leaveK_BB : leaveK sB cB = 0 := by decide +kernel
theorem wl_of (s : Pg) (c : Ce) (h1 : s = sA ∨ s = sB) (h2 : c = cA ∨ c = cB) : WLv s c := by
  rcases h1 with rfl | rfl <;> rcases h2 with rfl | rfl <;>
    exact ⟨authN_wn _, authN_wn _, by decide, ⟨by decide, fun x h => by cases h⟩, by decide, ⟨⟨by decide, fun x h => by cases h⟩, ⟨by decide, fun x h => by cases h⟩⟩, by unfold I64; decide, by unfold I64; decide, by unfold I64; decide, by unfold I64; decide⟩

theorem awake_call : PCall Try.prog 22 [] (.bool true) := by
  have a0 : PCall Try.prog 25 [.int .i64 0] (.agg [nmV (authN 0)]) := auth_call 0 (by omega)
  have a1 : PCall Try.prog 25 [.int .i64 1] (.agg [nmV (authN 1)]) := auth_call 1 (by omega)
  have a8 : PCall Try.prog 25 [.int .i64 8] (.agg [nmV (authN 8)]) := auth_call 8 (by omega)
  have an : PCall Try.prog 9 [.int .i64 0] (.agg [nmV (authN (namedN 0)), .int .i64 (pubK 0).h, .str (pubK 0).id, .str (pubK 0).root]) := anchor_call 0 (by omega)
  have hb : PCall Try.prog 13 [.agg [nmV (authN (namedN 0)), .int .i64 (pubK 0).h, .str (pubK 0).id, .str (pubK 0).root], .agg [.int .i64 0, .str [], .int .i64 0, .nils, .bool false, .bool false, .bool false, .nils, .int .i64 0, .bool false, .nils]] (.agg [nmV (authN (namedN 0)), .int .i64 (pubK 0).h, .str (pubK 0).id, .str (pubK 0).root, .bool true, .int .i64 8, .int .i64 9, .int .i64 9, .int .i64 9, .sl 0 []]) := pcall_nza (begin_call (anc 0) q0 (authN_wn _)) rfl
  have h1 : PCall Try.prog 23 [.agg [nmV (authN (namedN 0)), .int .i64 (pubK 0).h, .str (pubK 0).id, .str (pubK 0).root, .bool true, .int .i64 8, .int .i64 9, .int .i64 9, .int .i64 9, .sl 0 []], .agg [.str [], .str [], .int .i64 0, nmV (authN 0), nmV (authN 1), .int .i64 0, .int .i64 0, .int .i64 0, .str [], .str [], .bool false, .bool true, .int .i64 (-1), .int .i64 0, .nils, .nils, .nils, .int .i64 (-1), .int .i64 (-1), .int .i64 (-1), .nils, .bool false, .nils, .nils, .str [], .str [], .nils, .nils, .nils, .str []]] (.tup [.agg (leaveS sA cA).c, .int .i64 (leaveK sA cA)]) := pcall_nza (leave_call sA cA (wl_of _ _ (.inl rfl) (.inl rfl))) rfl
  have h2 : PCall Try.prog 23 [.agg [nmV (authN (namedN 0)), .int .i64 (pubK 0).h, .str (pubK 0).id, .str (pubK 0).root, .bool true, .int .i64 0, .int .i64 9, .int .i64 9, .int .i64 9, .sl 0 []], .agg [.str [], .str [], .int .i64 0, nmV (authN 0), nmV (authN 1), .int .i64 0, .int .i64 0, .int .i64 0, .str [], .str [], .bool false, .bool true, .int .i64 (-1), .int .i64 0, .nils, .nils, .nils, .int .i64 (-1), .int .i64 (-1), .int .i64 (-1), .nils, .bool false, .nils, .nils, .str [], .str [], .nils, .nils, .nils, .str []]] (.tup [.agg (leaveS sB cA).c, .int .i64 (leaveK sB cA)]) := pcall_nza (leave_call sB cA (wl_of _ _ (.inr rfl) (.inl rfl))) rfl
  have h3 : PCall Try.prog 23 [.agg [nmV (authN (namedN 0)), .int .i64 (pubK 0).h, .str (pubK 0).id, .str (pubK 0).root, .bool true, .int .i64 0, .int .i64 9, .int .i64 9, .int .i64 9, .sl 0 []], .agg [.str [], .str [], .int .i64 0, nmV (authN 0), nmV (authN 8), .int .i64 0, .int .i64 0, .int .i64 0, .str [], .str [], .bool false, .bool true, .int .i64 (-1), .int .i64 0, .nils, .nils, .nils, .int .i64 (-1), .int .i64 (-1), .int .i64 (-1), .nils, .bool false, .nils, .nils, .str [], .str [], .nils, .nils, .nils, .str []]] (.tup [.agg (leaveS sB cB).c, .int .i64 (leaveK sB cB)]) := pcall_nza (leave_call sB cB (wl_of _ _ (.inr rfl) (.inr rfl))) rfl
  have hs : PCall Try.prog 20 [.agg [nmV (authN (namedN 0)), .int .i64 (pubK 0).h, .str (pubK 0).id, .str (pubK 0).root, .bool true, .int .i64 0, .int .i64 9, .int .i64 9, .int .i64 9, .sl 0 []], .agg [.str [], .str [], .int .i64 0, nmV (authN 0), nmV (authN 8), .int .i64 0, .int .i64 0, .int .i64 0, .str [], .str [], .bool false, .bool true, .int .i64 (-1), .int .i64 0, .nils, .nils, .nils, .int .i64 (-1), .int .i64 (-1), .int .i64 (-1), .nils, .bool false, .nils, .nils, .str [], .str [], .nils, .nils, .nils, .str []], .bool true] (.bool (specialS sB cB true)) := pcall_nza (special_call sB cB true (authN_wn _) (authN_wn _)) rfl
  have hg : PCall Try.prog 16 [.agg [nmV (authN (namedN 0)), .int .i64 (pubK 0).h, .str (pubK 0).id, .str (pubK 0).root, .bool true, .int .i64 0, .int .i64 9, .int .i64 9, .int .i64 9, .sl 0 []], .agg [.int .i64 0, .str [], .int .i64 0, .nils, .bool false, .bool false, .bool false, .nils, .int .i64 0, .bool false, .nils]] (.sl 1 [nmV (authN (namedN 0)), .int .i64 (pubK 0).h, .str (pubK 0).id, .str (pubK 0).root]) := pcall_nza (signers_call sB q0 (authN_wn _) ⟨by decide, fun x h => by cases h⟩) rfl
  rw [leaveK_AA] at h1
  rw [leaveK_BA] at h2
  rw [leaveK_BB] at h3
  rw [show specialS sB cB true = true by decide +kernel] at hs
  generalize leaveS sA cA = P1 at *
  generalize leaveS sB cA = P2 at *
  generalize leaveS sB cB = P3 at *
  rw [Pg.c.eq_1] at h1 h2 h3
  generalize authN (namedN 0) = An at *
  generalize authN 0 = A0 at *
  generalize authN 1 = A1 at *
  generalize authN 8 = A8 at *
  generalize pubK 0 = KY at *
  refine pcall_body Try.func22 rfl Try.call22 ?_ ?_
  rotate_left 1
  refine awp_slots (s' := (V.junk :: V.junk :: V.junk :: V.junk :: V.junk :: V.junk :: V.junk :: V.junk :: V.junk :: V.junk :: V.junk :: V.junk :: V.junk :: V.junk :: V.junk :: V.junk :: V.junk :: V.junk :: V.junk :: V.junk :: V.junk :: V.junk :: V.junk :: V.junk :: V.junk :: V.junk :: V.junk :: V.junk :: V.junk :: V.junk :: V.junk :: V.junk :: V.junk :: V.junk :: V.junk :: V.junk :: V.junk :: V.junk :: V.junk :: V.junk :: V.junk :: V.junk :: V.junk :: V.junk :: V.junk :: V.junk :: V.junk :: V.junk :: V.junk :: V.junk :: V.junk :: V.junk :: V.junk :: V.junk :: V.junk :: V.junk :: V.junk :: V.junk :: V.junk :: V.junk :: V.junk :: V.junk :: V.junk :: [])) rfl ?_
  repeat' (first
    | ((first | refine arun_go0 rfl fun K9 h9 => ?_ | (refine arun_go ?_ ?_; (focus (simp ; done)); intro K9 h9)); simp (disch := (first | (simp; done) | omega | (simp; omega))) ; (try simp (disch := (first | omega | (simp; omega))) only [wrap_i64, wrap_u8, wrap_u32, wrap_u64, Int.tmod_eq_emod_of_nonneg, Int.tdiv_eq_ediv_of_nonneg]); (first | refine acall_pure (a0) (by simp) ?_ | refine acall_pure (a1) (by simp) ?_ | refine acall_pure (a8) (by simp) ?_ | refine acall_pure (an) (by simp) ?_ | refine acall_pure (hb) (by simp) ?_ | refine acall_pure (h1) (by simp) ?_ | refine acall_pure (h2) (by simp) ?_ | refine acall_pure (h3) (by simp) ?_ | refine acall_pure (hs) (by simp) ?_ | refine acall_pure (hg) (by simp) ?_ | skip); (repeat (refine And.intro (by first | omega | (simp; first | done | omega) | assumption | (intro e9; have e8 := congrArg List.length e9; first | (simp at e8; done) | ((try simp only [List.length_map, List.length_append] at e8); rw [List.length_nil] at e8; omega))) ?_)); (first | refine h9 _ _ (arun_slots (by first | (dsimp only [sput, sset]; done) | rfl) ?_)); clear h9 K9)
    | (refine arun_end ?_)
    | (refine awp_seq fun K hK => ?_)
    | (refine awp_region ?_)
    | (refine hK _ _ ?_; clear hK K)
    | (refine awp_ret ?_; refine ret_go ?_)
    | (refine arun_no ?_ ?_; (focus (simp ; done)); refine arun_slots (by first | (dsimp only [sput, sset]; done) | rfl) ?_)
    | (refine fall_go ?_)
    | (simp only [athen_normal, athen_exit, athen_ret, ablock_self, ablock_ne, ablock_normal, ablock_ret, Nat.reduceBEq])
    | (clear hK K; refine hK _ _ ?_; clear hK K)
    | (clear hK K; clear hK K; refine hK _ _ ?_; clear hK K)
    | (clear hK K; clear hK K; clear hK K; refine hK _ _ ?_; clear hK K)
    | (clear hK K; clear hK K; clear hK K; clear hK K; refine hK _ _ ?_; clear hK K)
    | (clear hK K; clear hK K; clear hK K; clear hK K; clear hK K; refine hK _ _ ?_; clear hK K))
  · simp
    exact .pure .bool
  · exact .bool
end Go.Proofs.Ytjlifjmjnhdcmaa
