/-
  CONTRACTS: the example of chapter 12; MerkleGenerate.
  Conditions: none.
-/
import Derived.Test.YthcdofbmmibgjaaGh
import Derived.Test.YthcdofbmmibgjaaGf
namespace Go.Proofs.Ythcdofbmmibgjaa
open Go.VS
set_option linter.all false
attribute [local irreducible] arun arunD AWp aend shaS shaT leafN verE

section
variable {P : Program} {F : List (Nat × Nat × V)} {s : List V} {rows : List Row} {k : KV}
theorem aeffS_int {sr d : TypeId} {x : Operand} {k0 kd : IntKind} {n : Int} (hx : oval s x = .int k0 n) (hd : uint P d = some kd) (hs : (P.underlying sr).isSome = true) (hk : k (.int kd (kd.wrap n)) rows) : aeffS P F (.convert sr d x) s rows k :=
  ⟨_, fun rows2 h => by simp only [aeff, hx, aconv]; exact ⟨kd, hd, hs, rfl, trivial⟩, hk⟩
theorem acallF_newT {f : FuncId} {args row : List V} {e : V} (hc : GCall P f args [] [row] (.tup [.ref 0 0, e])) (hp : Pures row) (he : e.Pure) (ha : ∀ x ∈ args, x.Pure) (hk : k (.tup [.ref rows.length 0, e]) (rows ++ [.live row])) : acallF P f args rows k :=
  acallF_gen (rows' := []) (news := [row]) [] [] [row] hc (by simp) trivial (rens_self ha) rfl rfl (by simp [rens_pures hp]) (rc := .tup [.ref rows.length 0, e]) (ren_tup (by simp [behind, he])) (by simpa using hk)
theorem acall_newT {f : FuncId} {cap args row : List V} {e : V} (hc : GCall P f (args ++ cap) [] [row] (.tup [.ref 0 0, e])) (hp : Pures row) (he : e.Pure) (ha : ∀ x ∈ args ++ cap, x.Pure) (hk : k (.tup [.ref rows.length 0, e]) (rows ++ [.live row])) : acall P false (.fn (.func f) cap) args rows k :=
  .inr ⟨rfl, acallF_acallW (acallF_newT hc hp he ha hk)⟩
end
theorem aeq_key (a a' : Int) (b c b' c' : List UInt8) : aeq Try.prog 20 42 (.agg [.int .i64 a, .str b, .str c]) (.agg [.int .i64 a', .str b', .str c']) = some (a == a' && (b == b' && c == c')) := by
  rw [aeq_agg [(true, 3, 0), (true, 9, 1), (true, 9, 2)] (by kernel_rfl)]
  have u1 : uagg Try.prog 3 = some false := by kernel_rfl
  have u2 : uagg Try.prog 9 = some false := by kernel_rfl
  have e1 : aeq Try.prog 19 3 (.int .i64 a) (.int .i64 a') = some (a == a') := aeq_int (by kernel_rfl)
  have e2 : aeq Try.prog 19 9 (.str b) (.str b') = some (b == b') := aeq_str (by kernel_rfl)
  have e3 : aeq Try.prog 19 9 (.str c) (.str c') = some (c == c') := aeq_str (by kernel_rfl)
  simp only [aeqL, opart, u1, u2, if_true]
  simp only [List.getElem?_cons_zero, List.getElem?_cons_succ, e1, e2, e3]
  cases a == a' <;> cases b == b' <;> cases c == c' <;> rfl

set_option maxRecDepth 100000 in
theorem awake12_call : PCall Try.prog 23 [] (.bool true) := by
  refine pcall_body Try.func23 rfl Try.call23 ?_ ?_
  rotate_left 1
  refine awp_slots (s' := [.junk, .junk, .junk, .junk, .junk, .junk, .junk, .junk, .junk, .junk, .junk, .junk, .junk, .junk, .junk, .junk, .junk, .junk, .junk, .junk, .junk, .junk, .junk, .junk, .junk, .junk, .junk, .junk, .junk, .junk, .junk, .junk, .junk, .junk, .junk]) rfl ?_
  have hs : (mseedS 1).length = 32 := mseedS_length 1
  have hl := sgnS_length (mseedS 1) 1 1 [109, 101, 115, 115, 97, 103, 101] (by decide)
  have hv := verify_call 1 (idS (mseedS 1)) (rootS (idS (mseedS 1)) (mseedS 1) 1) [109, 101, 115, 115, 97, 103, 101] (sgnS (mseedS 1) 1 1 [109, 101, 115, 115, 97, 103, 101]) (by simp) (by simp) (by simp) (by omega)
  have hv0 : verE 1 (idS (mseedS 1)) (rootS (idS (mseedS 1)) (mseedS 1) 1) [109, 101, 115, 115, 97, 103, 101] (sgnS (mseedS 1) 1 1 [109, 101, 115, 115, 97, 103, 101]) = 0 := verE_sgn (mseedS 1) 1 1 _ (by omega) (by decide)
  rw [hv0] at hv
  clear hv0
  have hts := tsign_call (mseedS 1) 1 false 1 [109, 101, 115, 115, 97, 103, 101] hs (by omega) (by decide) (by simp)
  have hkc := key_call (mseedS 1) 1 true hs (by omega)
  unfold keyV at hkc
  repeat' (first
    | ((first | refine arun_go0 rfl fun K9 h9 => ?_ | (refine arun_go ?_ ?_; (focus (simp [hl]; done)); intro K9 h9)); simp (disch := (first | (simp; done) | omega | (simp; omega))) [hl]; (try simp (disch := (first | omega | (simp; omega))) only [wrap_i64, wrap_u8, wrap_u32, wrap_u64, Int.tmod_eq_emod_of_nonneg, Int.tdiv_eq_ediv_of_nonneg]); (first | refine acall_pure (mseed_call _) (by simp) ?_ | refine acall_newT (generate_call (mseedS 1) 1 hs (by omega)) (trR_pures _ _ _) .int (by simp) ?_ | refine acall_mut 0 hts rfl (trR_pures _ _ _) (trR_pures _ _ _) (by simp) (by simp) ?_ | refine acall_mut 0 hkc rfl (trR_pures _ _ _) (trR_pures _ _ _) (by simp) (by simp) ?_ | refine acall_pure (hv) (by simp) ?_ | skip); (repeat (refine And.intro (by first | omega | (simp; first | done | omega) | assumption | (intro e9; have e8 := congrArg List.length e9; first | (simp at e8; done) | ((try simp only [List.length_map, List.length_append] at e8); rw [List.length_nil] at e8; omega))) ?_)); (first | refine h9 _ _ (arun_slots (by first | (dsimp only [sput, sset]; done) | rfl) ?_)); clear h9 K9)
    | (refine arun_end ?_)
    | (refine awp_seq fun K hK => ?_)
    | (refine awp_region ?_)
    | (refine hK _ _ ?_; clear hK K)
    | (refine awp_cond rfl (fun hcnd => ?_) (fun hcnd => ?_) <;> (try simp at hcnd) <;> (try contradiction) <;> (try (exfalso; omega)))
    | (refine awp_skip ?_)
    | (refine awp_ret ?_; refine ret_go ?_)
    | (refine arun_no ?_ ?_; (focus (simp [hl]; done)); refine arun_slots (by first | (dsimp only [sput, sset]; done) | rfl) ?_)
    | (refine fall_go ?_)
    | (simp only [athen_normal, athen_exit, athen_ret, ablock_self, ablock_ne, ablock_normal, ablock_ret, Nat.reduceBEq])
    | (clear hK K; refine hK _ _ ?_; clear hK K)
    | (clear hK K; clear hK K; refine hK _ _ ?_; clear hK K)
    | (clear hK K; clear hK K; clear hK K; refine hK _ _ ?_; clear hK K)
    | (clear hK K; clear hK K; clear hK K; clear hK K; refine hK _ _ ?_; clear hK K)
    | (clear hK K; clear hK K; clear hK K; clear hK K; clear hK K; refine hK _ _ ?_; clear hK K))
  · simp
    exact .pure .bool
  · exact .bool
end Go.Proofs.Ythcdofbmmibgjaa
