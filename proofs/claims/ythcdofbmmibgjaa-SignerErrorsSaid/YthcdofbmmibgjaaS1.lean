/-
  CONTRACTS: signers.
  Conditions: none.
-/
import Derived.Test.YthcdofbmmibgjaaM12
namespace Go.Proofs.Ythcdofbmmibgjaa
open Go.VS
set_option linter.all false
attribute [local irreducible] arun arunD AWp aend shaS shaT leafN verE

/-- A signer's row; its tree is row t. -/
def sgR (seed : List UInt8) (h : Nat) (n : Nat) (t : Nat) : List V := [.str seed, .int .i64 h, .int .i64 n, .ref t 0]
/-- A signer, seen. -/
def sgP (seed : List UInt8) (h n : Nat) (g : Bool) : V := .rptr [.str seed, .int .i64 h, .int .i64 n, .rptr (trR seed h g)]
def szR : List V := [.str [], .int .i64 0, .int .i64 0, .nilp]
@[simp] theorem szR_pures : Pures szR := by simp [szR]
@[simp] theorem sgP_pure (seed : List UInt8) (h n : Nat) (g : Bool) : (sgP seed h n g).Pure := .rptr

theorem view_sg {rows : List Row} {i j : Nat} {seed : List UInt8} {h n : Nat} {g : Bool} (hs : rows[i]? = some (.live (sgR seed h n j))) (ht : rows[j]? = some (.live (trR seed h g))) : View rows (.ref i 0) (sgP seed h n g) := by
  refine .ref hs (by simp [sgR]) (by simp [sgR]) fun k x y hx hy => ?_
  rw [Nat.zero_add] at hx
  match k with
  | 0 => simp [sgR] at hx hy; subst hx; subst hy; exact .pure .str
  | 1 => simp [sgR] at hx hy; subst hx; subst hy; exact .pure .int
  | 2 => simp [sgR] at hx hy; subst hx; subst hy; exact .pure .int
  | 3 => simp [sgR] at hx hy; subst hx; subst hy; exact view_ref ht trR_ne (trR_pures _ _ _)
  | k + 4 => simp at hy

section
variable {P : Program} {f : FuncId} {rows : List Row} {k : KV} {seed : List UInt8} {h n n' : Nat} {tr tr' rest : List V} {r e : V}
theorem acallF_sg (j i : Nat) (hc : GCall P f (.ref 1 0 :: rest) [tr, sgR seed h n 0] [tr', sgR seed h n' 0] r) (hij : j ≠ i) (ht : rows[j]? = some (.live tr)) (hs : rows[i]? = some (.live (sgR seed h n j))) (hp : Pures tr) (hp' : Pures tr') (hr : r.Pure)
    (hrest : ∀ x ∈ rest, x.Pure) (hk : k r ((rows.set j (.live tr')).set i (.live (sgR seed h n' j)))) : acallF P f (.ref i 0 :: rest) rows k :=
  acallF_gen (rows' := [tr', sgR seed h n' 0]) (news := []) [j, i] [tr', sgR seed h n' j] [] hc (by simp [hij]) (by simp [rowsOver, ht, hs, rowRen_live, rens_pures hp, sgR]) (by simp [rens_self hrest]) rfl rfl
    (by simp [behind, rens_pures hp', sgR]) (.pure hr) (by simpa using hk)
theorem acall_sg (j i : Nat) (hc : GCall P f (.ref 1 0 :: rest) [tr, sgR seed h n 0] [tr', sgR seed h n' 0] r) (hij : j ≠ i) (ht : rows[j]? = some (.live tr)) (hs : rows[i]? = some (.live (sgR seed h n j))) (hp : Pures tr) (hp' : Pures tr') (hr : r.Pure)
    (hrest : ∀ x ∈ rest, x.Pure) (hk : k r ((rows.set j (.live tr')).set i (.live (sgR seed h n' j)))) : acall P false (.fn (.func f) []) (.ref i 0 :: rest) rows k :=
  .inr ⟨rfl, acallF_acallW (by rw [List.append_nil]; exact acallF_sg j i hc hij ht hs hp hp' hr hrest hk)⟩
theorem acall_fork (j i : Nat) (hc : GCall P f [.ref 1 0] [tr, sgR seed h n 0] [tr, sgR seed h n 0, sgR seed h n 0] (.ref 2 0)) (hij : j ≠ i) (ht : rows[j]? = some (.live tr)) (hs : rows[i]? = some (.live (sgR seed h n j))) (hp : Pures tr)
    (hk : k (.ref rows.length 0) (rows ++ [.live (sgR seed h n j)])) : acall P false (.fn (.func f) []) [.ref i 0] rows k := by
  have e1 : (rows.set j (.live tr)).set i (.live (sgR seed h n j)) = rows := by
    obtain ⟨b1, b2⟩ := List.getElem?_eq_some_iff.1 ht
    obtain ⟨b3, b4⟩ := List.getElem?_eq_some_iff.1 hs
    have s1 : rows.set j (.live tr) = rows := by rw [← b2]; exact List.set_getElem_self b1
    rw [s1, ← b4]; exact List.set_getElem_self b3
  refine .inr ⟨rfl, acallF_acallW ?_⟩
  rw [List.append_nil]
  exact acallF_gen (rows' := [tr, sgR seed h n 0]) (news := [sgR seed h n 0]) [j, i] [tr, sgR seed h n j] [sgR seed h n j] hc (by simp [hij]) (by simp [rowsOver, ht, hs, rowRen_live, rens_pures hp, sgR]) (by simp) rfl rfl
    (by simp [behind, rens_pures hp, sgR]) (rc := .ref rows.length 0) (by simp [behind]) (by simpa [e1] using hk)
theorem acallF_news {args : List V} (hc : GCall P f args [] [tr, sgR seed h n 0] (.tup [.ref 1 0, e])) (hp : Pures tr) (he : e.Pure) (ha : ∀ x ∈ args, x.Pure) (hk : k (.tup [.ref (rows.length + 1) 0, e]) (rows ++ [.live tr, .live (sgR seed h n rows.length)])) : acallF P f args rows k :=
  acallF_gen (rows' := []) (news := [tr, sgR seed h n 0]) [] [] [tr, sgR seed h n rows.length] hc (by simp) trivial (rens_self ha) rfl rfl (by simp [behind, rens_pures hp, sgR, List.range_succ]) (rc := .tup [.ref (rows.length + 1) 0, e]) (ren_tup (by simp [behind, he, List.range_succ])) (by simpa using hk)
theorem acall_news {args : List V} (hc : GCall P f args [] [tr, sgR seed h n 0] (.tup [.ref 1 0, e])) (hp : Pures tr) (he : e.Pure) (ha : ∀ x ∈ args, x.Pure) (hk : k (.tup [.ref (rows.length + 1) 0, e]) (rows ++ [.live tr, .live (sgR seed h n rows.length)])) : acall P false (.fn (.func f) []) args rows k :=
  .inr ⟨rfl, acallF_acallW (by rw [List.append_nil]; exact acallF_news hc hp he ha hk)⟩
end

theorem aeq_state (a a' b b' : Int) (s s' : List UInt8) : aeq Try.prog 20 75 (.agg [.str s, .int .i64 a, .int .i64 b]) (.agg [.str s', .int .i64 a', .int .i64 b']) = some (s == s' && (a == a' && b == b')) := by
  rw [aeq_agg [(true, 9, 0), (true, 3, 1), (true, 3, 2)] (by kernel_rfl)]
  have u1 : uagg Try.prog 3 = some false := by kernel_rfl
  have u2 : uagg Try.prog 9 = some false := by kernel_rfl
  have e1 : aeq Try.prog 19 3 (.int .i64 a) (.int .i64 a') = some (a == a') := aeq_int (by kernel_rfl)
  have e2 : aeq Try.prog 19 3 (.int .i64 b) (.int .i64 b') = some (b == b') := aeq_int (by kernel_rfl)
  have e3 : aeq Try.prog 19 9 (.str s) (.str s') = some (s == s') := aeq_str (by kernel_rfl)
  simp only [aeqL, opart, u1, u2, if_true]
  simp only [List.getElem?_cons_zero, List.getElem?_cons_succ, e1, e2, e3]
  cases a == a' <;> cases b == b' <;> cases s == s' <;> rfl

theorem none_call (seed : List UInt8) (h n : Nat) (g : Bool) (hs : seed.length = 32) : PCall Try.prog 50 [sgP seed h n g] (.bool false) := by
  refine pcall_body Try.func50 rfl Try.call50 ?_ ?_
  rotate_left 1
  refine awp_slots (s' := [(sgP seed h n g : V), .junk, .junk, .junk, .junk, .junk, .junk, .junk, .junk, .junk, .junk, .junk, .junk]) rfl ?_
  obtain ⟨x, t, rfl⟩ := List.exists_cons_of_ne_nil (seed_ne hs)
  unfold sgP
  generalize trR (x :: t) h g = T
  repeat' (first
    | ((first | refine arun_go0 rfl fun K9 h9 => ?_ | (refine arun_go ?_ ?_; (focus (simp [aeq_state]; done)); intro K9 h9)); simp (disch := (first | (simp; done) | omega | (simp; omega))) [aeq_state]; (try simp (disch := (first | omega | (simp; omega))) only [wrap_i64, wrap_u8, wrap_u32, wrap_u64, Int.tmod_eq_emod_of_nonneg, Int.tdiv_eq_ediv_of_nonneg]); (repeat (refine And.intro (by first | omega | (simp; first | done | omega) | assumption | (intro e9; have e8 := congrArg List.length e9; first | (simp at e8; done) | ((try simp only [List.length_map, List.length_append] at e8); rw [List.length_nil] at e8; omega))) ?_)); (first | refine h9 _ _ (arun_slots (by first | (dsimp only [sput, sset]; done) | rfl) ?_)); clear h9 K9)
    | (refine arun_end ?_)
    | (refine awp_seq fun K hK => ?_)
    | (refine awp_region ?_)
    | (refine hK _ _ ?_; clear hK K)
    | (refine awp_ret ?_; refine ret_go ?_)
    | (refine arun_no ?_ ?_; (focus (simp [aeq_state]; done)); refine arun_slots (by first | (dsimp only [sput, sset]; done) | rfl) ?_)
    | (refine fall_go ?_)
    | (simp only [athen_normal, athen_exit, athen_ret, ablock_self, ablock_ne, ablock_normal, ablock_ret, Nat.reduceBEq])
    | (clear hK K; refine hK _ _ ?_; clear hK K)
    | (clear hK K; clear hK K; refine hK _ _ ?_; clear hK K)
    | (clear hK K; clear hK K; clear hK K; refine hK _ _ ?_; clear hK K)
    | (clear hK K; clear hK K; clear hK K; clear hK K; refine hK _ _ ?_; clear hK K)
    | (clear hK K; clear hK K; clear hK K; clear hK K; clear hK K; refine hK _ _ ?_; clear hK K))
  · simp
    exact .pure .bool
  · exact .bool
theorem none_zero : PCall Try.prog 50 [.rptr szR] (.bool true) := by
  refine pcall_body Try.func50 rfl Try.call50 ?_ ?_
  rotate_left 1
  refine awp_slots (s' := [(.rptr szR : V), .junk, .junk, .junk, .junk, .junk, .junk, .junk, .junk, .junk, .junk, .junk, .junk]) rfl ?_
  unfold szR
  repeat' (first
    | ((first | refine arun_go0 rfl fun K9 h9 => ?_ | (refine arun_go ?_ ?_; (focus (simp [aeq_state]; done)); intro K9 h9)); simp (disch := (first | (simp; done) | omega | (simp; omega))) [aeq_state]; (try simp (disch := (first | omega | (simp; omega))) only [wrap_i64, wrap_u8, wrap_u32, wrap_u64, Int.tmod_eq_emod_of_nonneg, Int.tdiv_eq_ediv_of_nonneg]); (repeat (refine And.intro (by first | omega | (simp; first | done | omega) | assumption | (intro e9; have e8 := congrArg List.length e9; first | (simp at e8; done) | ((try simp only [List.length_map, List.length_append] at e8); rw [List.length_nil] at e8; omega))) ?_)); (first | refine h9 _ _ (arun_slots (by first | (dsimp only [sput, sset]; done) | rfl) ?_)); clear h9 K9)
    | (refine arun_end ?_)
    | (refine awp_seq fun K hK => ?_)
    | (refine awp_region ?_)
    | (refine hK _ _ ?_; clear hK K)
    | (refine awp_ret ?_; refine ret_go ?_)
    | (refine arun_no ?_ ?_; (focus (simp [aeq_state]; done)); refine arun_slots (by first | (dsimp only [sput, sset]; done) | rfl) ?_)
    | (refine fall_go ?_)
    | (simp only [athen_normal, athen_exit, athen_ret, ablock_self, ablock_ne, ablock_normal, ablock_ret, Nat.reduceBEq])
    | (clear hK K; refine hK _ _ ?_; clear hK K)
    | (clear hK K; clear hK K; refine hK _ _ ?_; clear hK K)
    | (clear hK K; clear hK K; clear hK K; refine hK _ _ ?_; clear hK K)
    | (clear hK K; clear hK K; clear hK K; clear hK K; refine hK _ _ ?_; clear hK K)
    | (clear hK K; clear hK K; clear hK K; clear hK K; clear hK K; refine hK _ _ ?_; clear hK K))
  · simp
    exact .pure .bool
  · exact .bool
theorem none_nil : PCall Try.prog 50 [.nilp] (.bool true) := by
  refine pcall_body Try.func50 rfl Try.call50 ?_ ?_
  rotate_left 1
  refine awp_slots (s' := [(.nilp : V), .junk, .junk, .junk, .junk, .junk, .junk, .junk, .junk, .junk, .junk, .junk, .junk]) rfl ?_
  repeat' (first
    | ((first | refine arun_go0 rfl fun K9 h9 => ?_ | (refine arun_go ?_ ?_; (focus (simp ; done)); intro K9 h9)); simp (disch := (first | (simp; done) | omega | (simp; omega))) ; (try simp (disch := (first | omega | (simp; omega))) only [wrap_i64, wrap_u8, wrap_u32, wrap_u64, Int.tmod_eq_emod_of_nonneg, Int.tdiv_eq_ediv_of_nonneg]); (repeat (refine And.intro (by first | omega | (simp; first | done | omega) | assumption | (intro e9; have e8 := congrArg List.length e9; first | (simp at e8; done) | ((try simp only [List.length_map, List.length_append] at e8); rw [List.length_nil] at e8; omega))) ?_)); (first | refine h9 _ _ (arun_slots (by first | (dsimp only [sput, sset]; done) | rfl) ?_)); clear h9 K9)
    | (refine arun_end ?_)
    | (refine awp_seq fun K hK => ?_)
    | (refine awp_region ?_)
    | (refine hK _ _ ?_; clear hK K)
    | (refine awp_ret ?_; refine ret_go ?_)
    | (refine arun_no ?_ ?_; (focus (simp ; done)); refine arun_slots (by first | (dsimp only [sput, sset]; done) | rfl) ?_)
    | (refine fall_go ?_)
    | (simp only [athen_normal, athen_exit, athen_ret, ablock_self, ablock_ne, ablock_normal, ablock_ret, Nat.reduceBEq])
    | (clear hK K; refine hK _ _ ?_; clear hK K)
    | (clear hK K; clear hK K; refine hK _ _ ?_; clear hK K)
    | (clear hK K; clear hK K; clear hK K; refine hK _ _ ?_; clear hK K)
    | (clear hK K; clear hK K; clear hK K; clear hK K; refine hK _ _ ?_; clear hK K)
    | (clear hK K; clear hK K; clear hK K; clear hK K; clear hK K; refine hK _ _ ?_; clear hK K))
  · simp
    exact .pure .bool
  · exact .bool
end Go.Proofs.Ythcdofbmmibgjaa
