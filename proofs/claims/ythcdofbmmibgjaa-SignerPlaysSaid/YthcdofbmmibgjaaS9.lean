/-
  CONTRACTS: SignerPlays.
  Conditions: none.
-/
import Derived.Test.YthcdofbmmibgjaaS8
namespace Go.Proofs.Ythcdofbmmibgjaa
open Go.VS
set_option linter.all false
attribute [local irreducible] arun arunD AWp aend shaS shaT leafN verE

theorem dleft_call (l : List Int) (a : Nat) (ha : a ≤ l.length) (hl : l.length ≤ 140737488355328) : PCall Try.prog 46 [.rptr (dk l a)] (.bool (decide (a < l.length))) := by
  refine pcall_body Try.func46 rfl Try.call46 ?_ ?_
  rotate_left 1
  refine awp_slots (s' := [(.rptr (dk l a) : V), .junk, .junk, .junk, .junk, .junk, .junk, .junk, .junk, .junk, .junk, .junk, .junk]) rfl ?_
  unfold dk
  repeat' (first
    | ((first | refine arun_go0 rfl fun K9 h9 => ?_ | refine arunD_goF rfl rfl fun K9 h9 => ?_ | refine arunD_goT rfl rfl fun K9 h9 => ?_); simp (disch := (first | (simp; done) | omega | (simp; omega))) ; (try simp (disch := (first | omega | (simp; omega))) only [wrap_i64, wrap_u8, wrap_u32, wrap_u64, Int.tmod_eq_emod_of_nonneg, Int.tdiv_eq_ediv_of_nonneg]); (repeat (refine And.intro (by first | omega | (simp; first | done | omega) | assumption | (intro e9; have e8 := congrArg List.length e9; first | (simp at e8; done) | ((try simp only [List.length_map, List.length_append] at e8); rw [List.length_nil] at e8; omega))) ?_)); (first | refine h9 _ _ (arun_slots (by first | (dsimp only [sput, sset]; done) | rfl) ?_) | refine h9 _ _ (arunD_slots' (by first | (dsimp only [sput, sset]; done) | rfl) (by first | (dsimp only [List.tail]; done) | rfl) ?_)); clear h9 K9)
    | (refine arun_end ?_)
    | (refine arunD_end ?_)
    | (refine awp_seq fun K hK => ?_)
    | (refine awp_region ?_)
    | (refine hK _ _ ?_; clear hK K)
    | ((first | refine awp_region_draw' (m := 0) (by decide +kernel) [] (by kernel_rfl) (by decide +kernel) ?_); dsimp only [List.replicate, List.append_nil, List.cons_append, List.nil_append, List.length_cons, List.length_nil])
    | (refine awp_ret ?_; refine ret_go ?_)
    | (refine fall_go ?_)
    | (simp only [athen_normal, athen_exit, athen_ret, ablock_self, ablock_ne, ablock_normal, ablock_ret, Nat.reduceBEq])
    | (clear hK K; refine hK _ _ ?_; clear hK K)
    | (clear hK K; clear hK K; refine hK _ _ ?_; clear hK K)
    | (clear hK K; clear hK K; clear hK K; refine hK _ _ ?_; clear hK K)
    | (clear hK K; clear hK K; clear hK K; clear hK K; refine hK _ _ ?_; clear hK K)
    | (clear hK K; clear hK K; clear hK K; clear hK K; clear hK K; refine hK _ _ ?_; clear hK K))
  · simp
    exact .pure .bool
  · exact .bool

set_option maxRecDepth 100000 in
set_option maxHeartbeats 16000000 in
theorem signerPlays_call (k height : UInt8) (l : List Int) (hl : l.length ≤ 140737488355328) (hr : ∀ k ∈ l, -9223372036854775808 ≤ k ∧ k ≤ 9223372036854775807) :
    PCall Try.prog 12 [byteV k, byteV height, .sl l.length (l.map (V.int .i64))] (.bool true) := by
  refine pcall_body Try.func12 rfl Try.call12 ?_ ?_
  rotate_left 1
  refine awp_slots (s' := ((byteV k : V) :: (byteV height : V) :: (.sl l.length (l.map (V.int .i64)) : V) :: V.junk :: V.junk :: V.junk :: V.junk :: V.junk :: V.junk :: V.junk :: V.junk :: V.junk :: V.junk :: V.junk :: V.junk :: V.junk :: V.junk :: V.junk :: V.junk :: V.junk :: V.junk :: V.junk :: V.junk :: V.junk :: V.junk :: V.junk :: V.junk :: V.junk :: V.junk :: V.junk :: V.junk :: V.junk :: V.junk :: V.junk :: V.junk :: V.junk :: V.junk :: V.junk :: V.junk :: V.junk :: V.junk :: V.junk :: V.junk :: V.junk :: V.junk :: V.junk :: V.junk :: V.junk :: V.junk :: V.junk :: V.junk :: V.junk :: V.junk :: V.junk :: V.junk :: V.junk :: V.junk :: V.junk :: V.junk :: V.junk :: V.junk :: V.junk :: V.junk :: V.junk :: V.junk :: V.junk :: V.junk :: V.junk :: V.junk :: V.junk :: V.junk :: V.junk :: V.junk :: V.junk :: V.junk :: V.junk :: V.junk :: V.junk :: V.junk :: V.junk :: V.junk :: V.junk :: V.junk :: V.junk :: V.junk :: V.junk :: V.junk :: V.junk :: V.junk :: V.junk :: V.junk :: V.junk :: V.junk :: V.junk :: V.junk :: V.junk :: V.junk :: V.junk :: V.junk :: V.junk :: V.junk :: V.junk :: V.junk :: V.junk :: V.junk :: V.junk :: V.junk :: V.junk :: V.junk :: V.junk :: V.junk :: V.junk :: V.junk :: V.junk :: V.junk :: V.junk :: V.junk :: V.junk :: V.junk :: V.junk :: V.junk :: V.junk :: V.junk :: V.junk :: V.junk :: V.junk :: V.junk :: V.junk :: V.junk :: V.junk :: V.junk :: V.junk :: V.junk :: V.junk :: V.junk :: V.junk :: V.junk :: V.junk :: V.junk :: V.junk :: V.junk :: V.junk :: V.junk :: V.junk :: V.junk :: V.junk :: V.junk :: V.junk :: V.junk :: V.junk :: V.junk :: V.junk :: V.junk :: V.junk :: V.junk :: V.junk :: V.junk :: V.junk :: V.junk :: V.junk :: V.junk :: V.junk :: V.junk :: V.junk :: V.junk :: V.junk :: V.junk :: V.junk :: V.junk :: V.junk :: V.junk :: V.junk :: [])) rfl ?_
  have hc : k.toNat < 256 := UInt8.toNat_lt _
  have hc2 : height.toNat < 256 := UInt8.toNat_lt _
  obtain ⟨h, hhe⟩ : ∃ h : Nat, height.toNat % 3 = h := ⟨_, rfl⟩
  have hh : (height.toNat : Int) % 3 = (h : Int) := by omega
  have hh8 : h ≤ 8 := by omega
  have hsl := shl_one h hh8
  have h256 := pow_le_256 hh8
  have hms := mseed_call (k.toNat : Int)
  have hs : (mseedS k.toNat).length = 32 := mseedS_length _
  have htr := tree_call (k.toNat : Int) h hh8
  generalize mseedS (k.toNat : Int) = sd at *
  have hko := keyOf_call sd h hh8
  have hnw := new_call sd h hs hh8
  have hst : ∀ (n : Nat) (m : List UInt8), n < 2 ^ h → m.length ≤ 1000 → PCall Try.prog 32 [rtV sd h, .int .i64 n, .str m] (.tup [.str (sgnS sd h n m), .int .i64 0]) := fun n m q1 q2 => signTree_call sd h n m hs hh8 q1 q2
  unfold rtV at htr hko hst
  unfold keyV at hko
  obtain ⟨p, hp⟩ : ∃ p, 2 ^ h = p := ⟨_, rfl⟩
  rw [hp] at hsl h256
  repeat' (first
    | ((first | refine arun_go0 rfl fun K9 h9 => ?_ | refine arunD_goF rfl rfl fun K9 h9 => ?_ | refine arunD_goT rfl rfl fun K9 h9 => ?_ | (refine arun_go ?_ ?_; (focus (simp [hh]; done)); intro K9 h9) | ((first | refine arunD_gF rfl ?_ ?_ | refine arunD_gT rfl ?_ ?_); (focus (simp [hh]; done)); intro K9 h9)); simp (disch := (first | (simp; done) | omega | (simp; omega))) [hh]; (try simp (disch := (first | omega | (simp; omega))) only [wrap_i64, wrap_u8, wrap_u32, wrap_u64, Int.tmod_eq_emod_of_nonneg, Int.tdiv_eq_ediv_of_nonneg]); (first | refine acall_pure (hms) (by simp) ?_ | refine acall_pure (htr) (by simp) ?_ | refine acall_news hnw (trR_pures _ _ _) .int (by simp) ?_ | refine acall_new (deck_call l) (by simp) (by simp) ?_ | skip); (repeat (refine And.intro (by first | omega | (simp; first | done | omega) | assumption | (intro e9; have e8 := congrArg List.length e9; first | (simp at e8; done) | ((try simp only [List.length_map, List.length_append] at e8); rw [List.length_nil] at e8; omega))) ?_)); (first | refine h9 _ _ (arun_slots (by first | (dsimp only [sput, sset]; done) | rfl) ?_) | refine h9 _ _ (arunD_slots' (by first | (dsimp only [sput, sset]; done) | rfl) (by first | (dsimp only [List.tail]; done) | rfl) ?_)); clear h9 K9)
    | (refine arun_end ?_)
    | (refine arunD_end ?_)
    | (refine awp_seq fun K hK => ?_)
    | (refine awp_region ?_)
    | (refine hK _ _ ?_; clear hK K)
    | ((first | refine awp_region_draw' (m := 0) (by decide +kernel) [] (by kernel_rfl) (by decide +kernel) ?_); dsimp only [List.replicate, List.append_nil, List.cons_append, List.nil_append, List.length_cons, List.length_nil])
    | (refine awp_block ?_)
    | (refine awp_cond rfl (fun hcnd => ?_) (fun hcnd => ?_) <;> (try simp at hcnd) <;> (try contradiction) <;> (try (exfalso; omega)))
    | (refine awp_skip ?_)
    | (refine awp_exit ?_; simp only [athen_normal, athen_exit, athen_ret, ablock_self, ablock_ne, ablock_normal, ablock_ret, Nat.reduceBEq])
    | (refine awp_ret ?_; refine ret_go ?_)
    | (refine arun_no ?_ ?_; (focus (simp [hh]; done)); refine arun_slots (by first | (dsimp only [sput, sset]; done) | rfl) ?_)
    | ((first | refine arunD_nF rfl ?_ ?_ | refine arunD_nT rfl ?_ ?_); (focus (simp [hh]; done)); refine arunD_slots' (by first | (dsimp only [sput, sset]; done) | rfl) (by first | (dsimp only [List.tail]; done) | rfl) ?_)
    | (refine fall_go ?_)
    | (simp only [athen_normal, athen_exit, athen_ret, ablock_self, ablock_ne, ablock_normal, ablock_ret, Nat.reduceBEq])
    | (clear hK K; refine hK _ _ ?_; clear hK K)
    | (clear hK K; clear hK K; refine hK _ _ ?_; clear hK K)
    | (clear hK K; clear hK K; clear hK K; refine hK _ _ ?_; clear hK K)
    | (clear hK K; clear hK K; clear hK K; clear hK K; refine hK _ _ ?_; clear hK K)
    | (clear hK K; clear hK K; clear hK K; clear hK K; clear hK K; refine hK _ _ ?_; clear hK K))
  refine awp_freeze' 0 rfl (by simp) (by simp [fz, byteV]; rfl) (by simp [fzRow, fz, sgR, fz_map (trR_pures _ _ _), fz_map (dk_pures _ _)]; rfl) ?_
  refine awp_loopU (α := Nat × Nat × Nat × Bool) (fun x => (none :: some V.junk :: some V.junk :: none :: none :: none :: some V.junk :: none :: none :: some (V.ref 1 0) :: some V.junk :: some (V.ref 2 0) :: some (V.int .i64 x.2.2.1) :: some (V.int .i64 x.1) :: some V.junk :: some V.junk :: some V.junk :: some V.junk :: some V.junk :: some V.junk :: some V.junk :: some V.junk :: some V.junk :: some V.junk :: some V.junk :: some V.junk :: some V.junk :: some V.junk :: some V.junk :: some V.junk :: some V.junk :: some V.junk :: some V.junk :: some V.junk :: some V.junk :: some V.junk :: some V.junk :: some V.junk :: some V.junk :: some V.junk :: some V.junk :: some V.junk :: some V.junk :: some V.junk :: some V.junk :: some V.junk :: some V.junk :: some V.junk :: some V.junk :: some V.junk :: some V.junk :: some V.junk :: some V.junk :: some V.junk :: some V.junk :: some V.junk :: some V.junk :: some V.junk :: some V.junk :: some V.junk :: some V.junk :: some V.junk :: some V.junk :: some V.junk :: some V.junk :: some V.junk :: some V.junk :: some V.junk :: some V.junk :: some V.junk :: some V.junk :: some V.junk :: some V.junk :: some V.junk :: some V.junk :: some V.junk :: some V.junk :: some V.junk :: some V.junk :: some V.junk :: some V.junk :: some V.junk :: some V.junk :: some V.junk :: some V.junk :: some V.junk :: some V.junk :: some V.junk :: some V.junk :: some V.junk :: some V.junk :: some V.junk :: some V.junk :: some V.junk :: some V.junk :: some V.junk :: some V.junk :: some V.junk :: some V.junk :: some V.junk :: some V.junk :: some V.junk :: some V.junk :: some V.junk :: some V.junk :: some V.junk :: some V.junk :: some V.junk :: some V.junk :: some V.junk :: some V.junk :: some V.junk :: some V.junk :: some V.junk :: some V.junk :: some V.junk :: some V.junk :: some V.junk :: some V.junk :: some V.junk :: some V.junk :: some V.junk :: some V.junk :: some V.junk :: some V.junk :: some V.junk :: some V.junk :: some V.junk :: some V.junk :: some V.junk :: some V.junk :: some V.junk :: some V.junk :: some V.junk :: some V.junk :: some V.junk :: some V.junk :: some V.junk :: some V.junk :: some V.junk :: some V.junk :: some V.junk :: some V.junk :: some V.junk :: some V.junk :: some V.junk :: some V.junk :: some V.junk :: some V.junk :: some V.junk :: some V.junk :: some V.junk :: some V.junk :: some V.junk :: some V.junk :: some V.junk :: some V.junk :: some V.junk :: some V.junk :: some V.junk :: some V.junk :: some V.junk :: some V.junk :: some V.junk :: some V.junk :: some V.junk :: some V.junk :: some V.junk :: some V.junk :: some V.junk :: some V.junk :: some V.junk :: [])) (fun x => [.live (trR sd h x.2.2.2), .live (sgR sd h x.2.2.1 0), .live (dk l x.2.1)]) (fun x => x.1 ≤ 8 ∧ x.2.1 ≤ l.length ∧ x.2.2.1 ≤ p) (fun x => 9 - x.1) (0, 0, 0, false) ⟨Nat.zero_le _, Nat.zero_le _, Nat.zero_le _⟩ ?_ ?_
  · dsimp only [ups_some, ups_none, ups_nil, ups_nil']
    exact Le.mk [some 1, some 2, some 3] (by simp) (rowsRen_of (by simp) (by simp [rowsOver, rowRen_live, rens_pures, sgR])) (by simp)
  rintro ⟨i, a, n, g⟩ ⟨hi, ha, hn⟩ KL hL
  dsimp only at hi ha hn
  dsimp only [ups_some, ups_none, ups_nil, ups_nil']
  have hdl := dleft_call l a ha hl
  rcases Nat.lt_or_ge i 8 with h8 | h8
  · have h8i : (i : Int) < 8 := by omega
    rcases Nat.lt_or_ge a l.length with hal | hal
    · rw [decide_eq_true hal] at hdl
      have nc := next_call l a 5 hl ha (by omega) (by omega) hr
      have nb := dkX_bounds (l := l) (a := a) (n := 5) (by omega)
      have d1 : dkA l a ≤ l.length := dkA_le ha
      generalize dkA l a = a1 at *
      generalize dkX l a 5 = c at *
      have fin : ∀ (n' : Nat) (g' : Bool), n' ≤ p → PCall Try.prog 40 [sgP sd h n' g'] (.int .i64 n') ∧ PCall Try.prog 41 [sgP sd h n' g'] (.int .i64 ((p : Int) - n')) ∧
          GCall Try.prog 43 [.ref 1 0] [trR sd h g', sgR sd h n' 0] [trR sd h true, sgR sd h n' 0] (.agg [.int .i64 h, .str (idS sd), .str (rootS (idS sd) sd h)]) := by
        intro n' g' q
        refine ⟨snext_call sd h n' g' hs, ?_, skey_call sd h n' g' hs hh8⟩
        have := sleft_call sd h n' g' hs hh8 (by omega)
        rw [hp, show ((p - n' : Nat) : Int) = (p : Int) - n' by omega] at this
        exact this
      obtain rfl | rfl | rfl | rfl | rfl : c = 0 ∨ c = 1 ∨ c = 2 ∨ c = 3 ∨ c = 4 := by omega
      · have n2 := next_call l a1 256 hl d1 (by omega) (by omega) hr
        have b2 := dkX_bounds (l := l) (a := a1) (n := 256) (by omega)
        have d2 : dkA l a1 ≤ l.length := dkA_le d1
        generalize dkA l a1 = a2 at *
        generalize dkX l a1 256 = e at *
        obtain ⟨e, rfl⟩ := Int.eq_ofNat_of_zero_le b2.1
        have he : IntKind.u8.wrap (e : Int) = e := wrap_u8 (by omega) (by omega)
        rcases Nat.lt_or_ge n p with hnp | hnp
        · have sg := ssign_call sd h n g [109, 101, 115, 115, 97, 103, 101, UInt8.ofNat e] hs hh8 (by omega) (by simp)
          have rs := hst n [109, 101, 115, 115, 97, 103, 101, UInt8.ofNat e] (by omega) (by simp)
          generalize sgnS sd h n [109, 101, 115, 115, 97, 103, 101, UInt8.ofNat e] = sgn at *
          obtain ⟨f1, f2, f3⟩ := fin (n + 1) true (by omega)
          have hne : ¬ n = p := by omega
          clear hp
          repeat' (first
    | ((first | refine arun_go0 rfl fun K9 h9 => ?_ | refine arunD_goF rfl rfl fun K9 h9 => ?_ | refine arunD_goT rfl rfl fun K9 h9 => ?_ | (refine arun_go ?_ ?_; (focus (simp [h8i, hsl, he, hne, aeq_key]; done)); intro K9 h9) | ((first | refine arunD_gF rfl ?_ ?_ | refine arunD_gT rfl ?_ ?_); (focus (simp [h8i, hsl, he, hne, aeq_key]; done)); intro K9 h9)); simp (disch := (first | (simp; done) | omega | (simp; omega))) [h8i, hsl, he, hne, aeq_key]; (try simp (disch := (first | omega | (simp; omega))) only [wrap_i64, wrap_u8, wrap_u32, wrap_u64, Int.tmod_eq_emod_of_nonneg, Int.tdiv_eq_ediv_of_nonneg]); (first | refine acall_view hdl ⟨view_ref rfl (by simp [dk]) (dk_pures _ _), trivial⟩ .bool ?_ | refine acall_mut 2 nc rfl (by simp) (by simp) .int (by simp) ?_ | refine acall_mut 2 n2 rfl (by simp) (by simp) .int (by simp) ?_ | refine acall_sg 0 1 sg (by omega) rfl rfl (trR_pures _ _ _) (trR_pures _ _ _) (by simp) (by simp) ?_ | refine acall_pure (rs) (by simp) ?_ | refine acall_view f1 ⟨view_sg rfl rfl, trivial⟩ .int ?_ | refine acall_view f2 ⟨view_sg rfl rfl, trivial⟩ .int ?_ | refine acallF_sg 0 1 f3 (by omega) rfl rfl (trR_pures _ _ _) (trR_pures _ _ _) (by simp) (by simp) ?_ | refine acall_pure (hko) (by simp) ?_ | skip); (repeat (refine And.intro (by first | omega | (simp; first | done | omega) | assumption | (intro e9; have e8 := congrArg List.length e9; first | (simp at e8; done) | ((try simp only [List.length_map, List.length_append] at e8); rw [List.length_nil] at e8; omega))) ?_)); (first | refine h9 _ _ (arun_slots (by first | (dsimp only [sput, sset]; done) | rfl) ?_) | refine h9 _ _ (arunD_slots' (by first | (dsimp only [sput, sset]; done) | rfl) (by first | (dsimp only [List.tail]; done) | rfl) ?_)); clear h9 K9)
    | (refine arun_end ?_)
    | (refine arunD_end ?_)
    | (refine awp_seq fun K hK => ?_)
    | (refine awp_region ?_)
    | (refine hK _ _ ?_; clear hK K)
    | ((first | refine awp_region_draw' (m := 0) (by decide +kernel) [0, 0, 0, 0, 0, 0, 0, 0, 0, 0, 0, 0, 0, 0, 0, 2, 1] (by kernel_rfl) (by decide +kernel) ?_ | refine awp_region_draw' (m := 0) (by decide +kernel) [] (by kernel_rfl) (by decide +kernel) ?_); dsimp only [List.replicate, List.append_nil, List.cons_append, List.nil_append, List.length_cons, List.length_nil])
    | (refine awp_block ?_)
    | (refine awp_cond rfl (fun hcnd => ?_) (fun hcnd => ?_) <;> (try simp at hcnd) <;> (try contradiction) <;> (try (exfalso; omega)))
    | (refine awp_skip ?_)
    | (refine awp_exit ?_; simp only [athen_normal, athen_exit, athen_ret, ablock_self, ablock_ne, ablock_normal, ablock_ret, Nat.reduceBEq])
    | (refine awp_ret ?_; refine ret_go ?_)
    | (refine arun_no ?_ ?_; (focus (simp [h8i, hsl, he, hne, aeq_key]; done)); refine arun_slots (by first | (dsimp only [sput, sset]; done) | rfl) ?_)
    | ((first | refine arunD_nF rfl ?_ ?_ | refine arunD_nT rfl ?_ ?_); (focus (simp [h8i, hsl, he, hne, aeq_key]; done)); refine arunD_slots' (by first | (dsimp only [sput, sset]; done) | rfl) (by first | (dsimp only [List.tail]; done) | rfl) ?_)
    | (refine fall_go ?_)
    | (simp only [athen_normal, athen_exit, athen_ret, ablock_self, ablock_ne, ablock_normal, ablock_ret, Nat.reduceBEq])
    | (clear hK K; refine hK _ _ ?_; clear hK K)
    | (clear hK K; clear hK K; refine hK _ _ ?_; clear hK K)
    | (clear hK K; clear hK K; clear hK K; refine hK _ _ ?_; clear hK K)
    | (clear hK K; clear hK K; clear hK K; clear hK K; refine hK _ _ ?_; clear hK K)
    | (clear hK K; clear hK K; clear hK K; clear hK K; clear hK K; refine hK _ _ ?_; clear hK K))
          refine hL (i + 1, a2, n + 1, true) _ _ ⟨by dsimp only; omega, d2, by dsimp only; omega⟩ (by dsimp only; omega) ?_
          exact Le.mk [some 0, some 1, some 2] (by dsimp only [ups_some, ups_none, ups_nil, ups_nil']; simp <;> (intros; omega)) (rowsRen_of (by simp) (by simp [rowsOver, rowRen_live, rens_pures, sgR])) (by simp)
        · obtain rfl : n = p := by omega
          have sg := ssign_done sd h g [109, 101, 115, 115, 97, 103, 101, UInt8.ofNat e] hs hh8
          rw [hp] at sg
          clear hp
          repeat' (first
    | ((first | refine arun_go0 rfl fun K9 h9 => ?_ | refine arunD_goF rfl rfl fun K9 h9 => ?_ | refine arunD_goT rfl rfl fun K9 h9 => ?_ | (refine arun_go ?_ ?_; (focus (simp [h8i, hsl, he]; done)); intro K9 h9) | ((first | refine arunD_gF rfl ?_ ?_ | refine arunD_gT rfl ?_ ?_); (focus (simp [h8i, hsl, he]; done)); intro K9 h9)); simp (disch := (first | (simp; done) | omega | (simp; omega))) [h8i, hsl, he]; (try simp (disch := (first | omega | (simp; omega))) only [wrap_i64, wrap_u8, wrap_u32, wrap_u64, Int.tmod_eq_emod_of_nonneg, Int.tdiv_eq_ediv_of_nonneg]); (first | refine acall_view hdl ⟨view_ref rfl (by simp [dk]) (dk_pures _ _), trivial⟩ .bool ?_ | refine acall_mut 2 nc rfl (by simp) (by simp) .int (by simp) ?_ | refine acall_mut 2 n2 rfl (by simp) (by simp) .int (by simp) ?_ | refine acall_view sg ⟨view_sg rfl rfl, .pure .str, trivial⟩ (by simp) ?_ | skip); (repeat (refine And.intro (by first | omega | (simp; first | done | omega) | assumption | (intro e9; have e8 := congrArg List.length e9; first | (simp at e8; done) | ((try simp only [List.length_map, List.length_append] at e8); rw [List.length_nil] at e8; omega))) ?_)); (first | refine h9 _ _ (arun_slots (by first | (dsimp only [sput, sset]; done) | rfl) ?_) | refine h9 _ _ (arunD_slots' (by first | (dsimp only [sput, sset]; done) | rfl) (by first | (dsimp only [List.tail]; done) | rfl) ?_)); clear h9 K9)
    | (refine arun_end ?_)
    | (refine arunD_end ?_)
    | (refine awp_seq fun K hK => ?_)
    | (refine awp_region ?_)
    | (refine hK _ _ ?_; clear hK K)
    | ((first | refine awp_region_draw' (m := 0) (by decide +kernel) [] (by kernel_rfl) (by decide +kernel) ?_); dsimp only [List.replicate, List.append_nil, List.cons_append, List.nil_append, List.length_cons, List.length_nil])
    | (refine awp_block ?_)
    | (refine awp_cond rfl (fun hcnd => ?_) (fun hcnd => ?_) <;> (try simp at hcnd) <;> (try contradiction) <;> (try (exfalso; omega)))
    | (refine awp_skip ?_)
    | (refine awp_exit ?_; simp only [athen_normal, athen_exit, athen_ret, ablock_self, ablock_ne, ablock_normal, ablock_ret, Nat.reduceBEq])
    | (refine awp_ret ?_; refine ret_go ?_)
    | (refine arun_no ?_ ?_; (focus (simp [h8i, hsl, he]; done)); refine arun_slots (by first | (dsimp only [sput, sset]; done) | rfl) ?_)
    | ((first | refine arunD_nF rfl ?_ ?_ | refine arunD_nT rfl ?_ ?_); (focus (simp [h8i, hsl, he]; done)); refine arunD_slots' (by first | (dsimp only [sput, sset]; done) | rfl) (by first | (dsimp only [List.tail]; done) | rfl) ?_)
    | (refine fall_go ?_)
    | (simp only [athen_normal, athen_exit, athen_ret, ablock_self, ablock_ne, ablock_normal, ablock_ret, Nat.reduceBEq])
    | (clear hK K; refine hK _ _ ?_; clear hK K)
    | (clear hK K; clear hK K; refine hK _ _ ?_; clear hK K)
    | (clear hK K; clear hK K; clear hK K; refine hK _ _ ?_; clear hK K)
    | (clear hK K; clear hK K; clear hK K; clear hK K; refine hK _ _ ?_; clear hK K)
    | (clear hK K; clear hK K; clear hK K; clear hK K; clear hK K; refine hK _ _ ?_; clear hK K))
          refine hL (i + 1, a2, n, g) _ _ ⟨by dsimp only; omega, d2, by dsimp only; omega⟩ (by dsimp only; omega) ?_
          exact Le.mk [some 0, some 1, some 2] (by dsimp only [ups_some, ups_none, ups_nil, ups_nil']; simp <;> (intros; omega)) (rowsRen_of (by simp) (by simp [rowsOver, rowRen_live, rens_pures, sgR])) (by simp)
      · have n2 := next_call l a1 256 hl d1 (by omega) (by omega) hr
        have b2 := dkX_bounds (l := l) (a := a1) (n := 256) (by omega)
        have d2 : dkA l a1 ≤ l.length := dkA_le d1
        generalize dkA l a1 = a2 at *
        generalize dkX l a1 256 = e at *
        obtain ⟨e, rfl⟩ := Int.eq_ofNat_of_zero_le b2.1
        have he : IntKind.u8.wrap (e : Int) = e := wrap_u8 (by omega) (by omega)
        rcases Nat.lt_or_ge n p with hnp | hnp
        · have sg := ssign_call sd h n g [109, 101, 115, 115, 97, 103, 101, UInt8.ofNat e] hs hh8 (by omega) (by simp)
          have rs := hst n [109, 101, 115, 115, 97, 103, 101, UInt8.ofNat e] (by omega) (by simp)
          generalize sgnS sd h n [109, 101, 115, 115, 97, 103, 101, UInt8.ofNat e] = sgn at *
          obtain ⟨f1, f2, f3⟩ := fin (n + 1) true (by omega)
          have hne : ¬ n = p := by omega
          clear hp
          repeat' (first
    | ((first | refine arun_go0 rfl fun K9 h9 => ?_ | refine arunD_goF rfl rfl fun K9 h9 => ?_ | refine arunD_goT rfl rfl fun K9 h9 => ?_ | (refine arun_go ?_ ?_; (focus (simp [h8i, hsl, he, hne, aeq_key]; done)); intro K9 h9) | ((first | refine arunD_gF rfl ?_ ?_ | refine arunD_gT rfl ?_ ?_); (focus (simp [h8i, hsl, he, hne, aeq_key]; done)); intro K9 h9)); simp (disch := (first | (simp; done) | omega | (simp; omega))) [h8i, hsl, he, hne, aeq_key]; (try simp (disch := (first | omega | (simp; omega))) only [wrap_i64, wrap_u8, wrap_u32, wrap_u64, Int.tmod_eq_emod_of_nonneg, Int.tdiv_eq_ediv_of_nonneg]); (first | refine acall_view hdl ⟨view_ref rfl (by simp [dk]) (dk_pures _ _), trivial⟩ .bool ?_ | refine acall_mut 2 nc rfl (by simp) (by simp) .int (by simp) ?_ | refine acall_mut 2 n2 rfl (by simp) (by simp) .int (by simp) ?_ | refine acall_sg 0 1 sg (by omega) rfl rfl (trR_pures _ _ _) (trR_pures _ _ _) (by simp) (by simp) ?_ | refine acall_pure (rs) (by simp) ?_ | refine acall_view f1 ⟨view_sg rfl rfl, trivial⟩ .int ?_ | refine acall_view f2 ⟨view_sg rfl rfl, trivial⟩ .int ?_ | refine acallF_sg 0 1 f3 (by omega) rfl rfl (trR_pures _ _ _) (trR_pures _ _ _) (by simp) (by simp) ?_ | refine acall_pure (hko) (by simp) ?_ | skip); (repeat (refine And.intro (by first | omega | (simp; first | done | omega) | assumption | (intro e9; have e8 := congrArg List.length e9; first | (simp at e8; done) | ((try simp only [List.length_map, List.length_append] at e8); rw [List.length_nil] at e8; omega))) ?_)); (first | refine h9 _ _ (arun_slots (by first | (dsimp only [sput, sset]; done) | rfl) ?_) | refine h9 _ _ (arunD_slots' (by first | (dsimp only [sput, sset]; done) | rfl) (by first | (dsimp only [List.tail]; done) | rfl) ?_)); clear h9 K9)
    | (refine arun_end ?_)
    | (refine arunD_end ?_)
    | (refine awp_seq fun K hK => ?_)
    | (refine awp_region ?_)
    | (refine hK _ _ ?_; clear hK K)
    | ((first | refine awp_region_draw' (m := 0) (by decide +kernel) [0, 0, 0, 0, 0, 0, 0, 0, 0, 0, 0, 0, 0, 0, 0, 2, 1] (by kernel_rfl) (by decide +kernel) ?_ | refine awp_region_draw' (m := 0) (by decide +kernel) [] (by kernel_rfl) (by decide +kernel) ?_); dsimp only [List.replicate, List.append_nil, List.cons_append, List.nil_append, List.length_cons, List.length_nil])
    | (refine awp_block ?_)
    | (refine awp_cond rfl (fun hcnd => ?_) (fun hcnd => ?_) <;> (try simp at hcnd) <;> (try contradiction) <;> (try (exfalso; omega)))
    | (refine awp_skip ?_)
    | (refine awp_exit ?_; simp only [athen_normal, athen_exit, athen_ret, ablock_self, ablock_ne, ablock_normal, ablock_ret, Nat.reduceBEq])
    | (refine awp_ret ?_; refine ret_go ?_)
    | (refine arun_no ?_ ?_; (focus (simp [h8i, hsl, he, hne, aeq_key]; done)); refine arun_slots (by first | (dsimp only [sput, sset]; done) | rfl) ?_)
    | ((first | refine arunD_nF rfl ?_ ?_ | refine arunD_nT rfl ?_ ?_); (focus (simp [h8i, hsl, he, hne, aeq_key]; done)); refine arunD_slots' (by first | (dsimp only [sput, sset]; done) | rfl) (by first | (dsimp only [List.tail]; done) | rfl) ?_)
    | (refine fall_go ?_)
    | (simp only [athen_normal, athen_exit, athen_ret, ablock_self, ablock_ne, ablock_normal, ablock_ret, Nat.reduceBEq])
    | (clear hK K; refine hK _ _ ?_; clear hK K)
    | (clear hK K; clear hK K; refine hK _ _ ?_; clear hK K)
    | (clear hK K; clear hK K; clear hK K; refine hK _ _ ?_; clear hK K)
    | (clear hK K; clear hK K; clear hK K; clear hK K; refine hK _ _ ?_; clear hK K)
    | (clear hK K; clear hK K; clear hK K; clear hK K; clear hK K; refine hK _ _ ?_; clear hK K))
          refine hL (i + 1, a2, n + 1, true) _ _ ⟨by dsimp only; omega, d2, by dsimp only; omega⟩ (by dsimp only; omega) ?_
          exact Le.mk [some 0, some 1, some 2] (by dsimp only [ups_some, ups_none, ups_nil, ups_nil']; simp <;> (intros; omega)) (rowsRen_of (by simp) (by simp [rowsOver, rowRen_live, rens_pures, sgR])) (by simp)
        · obtain rfl : n = p := by omega
          have sg := ssign_done sd h g [109, 101, 115, 115, 97, 103, 101, UInt8.ofNat e] hs hh8
          rw [hp] at sg
          clear hp
          repeat' (first
    | ((first | refine arun_go0 rfl fun K9 h9 => ?_ | refine arunD_goF rfl rfl fun K9 h9 => ?_ | refine arunD_goT rfl rfl fun K9 h9 => ?_ | (refine arun_go ?_ ?_; (focus (simp [h8i, hsl, he]; done)); intro K9 h9) | ((first | refine arunD_gF rfl ?_ ?_ | refine arunD_gT rfl ?_ ?_); (focus (simp [h8i, hsl, he]; done)); intro K9 h9)); simp (disch := (first | (simp; done) | omega | (simp; omega))) [h8i, hsl, he]; (try simp (disch := (first | omega | (simp; omega))) only [wrap_i64, wrap_u8, wrap_u32, wrap_u64, Int.tmod_eq_emod_of_nonneg, Int.tdiv_eq_ediv_of_nonneg]); (first | refine acall_view hdl ⟨view_ref rfl (by simp [dk]) (dk_pures _ _), trivial⟩ .bool ?_ | refine acall_mut 2 nc rfl (by simp) (by simp) .int (by simp) ?_ | refine acall_mut 2 n2 rfl (by simp) (by simp) .int (by simp) ?_ | refine acall_view sg ⟨view_sg rfl rfl, .pure .str, trivial⟩ (by simp) ?_ | skip); (repeat (refine And.intro (by first | omega | (simp; first | done | omega) | assumption | (intro e9; have e8 := congrArg List.length e9; first | (simp at e8; done) | ((try simp only [List.length_map, List.length_append] at e8); rw [List.length_nil] at e8; omega))) ?_)); (first | refine h9 _ _ (arun_slots (by first | (dsimp only [sput, sset]; done) | rfl) ?_) | refine h9 _ _ (arunD_slots' (by first | (dsimp only [sput, sset]; done) | rfl) (by first | (dsimp only [List.tail]; done) | rfl) ?_)); clear h9 K9)
    | (refine arun_end ?_)
    | (refine arunD_end ?_)
    | (refine awp_seq fun K hK => ?_)
    | (refine awp_region ?_)
    | (refine hK _ _ ?_; clear hK K)
    | ((first | refine awp_region_draw' (m := 0) (by decide +kernel) [] (by kernel_rfl) (by decide +kernel) ?_); dsimp only [List.replicate, List.append_nil, List.cons_append, List.nil_append, List.length_cons, List.length_nil])
    | (refine awp_block ?_)
    | (refine awp_cond rfl (fun hcnd => ?_) (fun hcnd => ?_) <;> (try simp at hcnd) <;> (try contradiction) <;> (try (exfalso; omega)))
    | (refine awp_skip ?_)
    | (refine awp_exit ?_; simp only [athen_normal, athen_exit, athen_ret, ablock_self, ablock_ne, ablock_normal, ablock_ret, Nat.reduceBEq])
    | (refine awp_ret ?_; refine ret_go ?_)
    | (refine arun_no ?_ ?_; (focus (simp [h8i, hsl, he]; done)); refine arun_slots (by first | (dsimp only [sput, sset]; done) | rfl) ?_)
    | ((first | refine arunD_nF rfl ?_ ?_ | refine arunD_nT rfl ?_ ?_); (focus (simp [h8i, hsl, he]; done)); refine arunD_slots' (by first | (dsimp only [sput, sset]; done) | rfl) (by first | (dsimp only [List.tail]; done) | rfl) ?_)
    | (refine fall_go ?_)
    | (simp only [athen_normal, athen_exit, athen_ret, ablock_self, ablock_ne, ablock_normal, ablock_ret, Nat.reduceBEq])
    | (clear hK K; refine hK _ _ ?_; clear hK K)
    | (clear hK K; clear hK K; refine hK _ _ ?_; clear hK K)
    | (clear hK K; clear hK K; clear hK K; refine hK _ _ ?_; clear hK K)
    | (clear hK K; clear hK K; clear hK K; clear hK K; refine hK _ _ ?_; clear hK K)
    | (clear hK K; clear hK K; clear hK K; clear hK K; clear hK K; refine hK _ _ ?_; clear hK K))
          refine hL (i + 1, a2, n, g) _ _ ⟨by dsimp only; omega, d2, by dsimp only; omega⟩ (by dsimp only; omega) ?_
          exact Le.mk [some 0, some 1, some 2] (by dsimp only [ups_some, ups_none, ups_nil, ups_nil']; simp <;> (intros; omega)) (rowsRen_of (by simp) (by simp [rowsOver, rowRen_live, rens_pures, sgR])) (by simp)
      · have n2 := next_call l a1 5 hl d1 (by omega) (by omega) hr
        have b2 := dkX_bounds (l := l) (a := a1) (n := 5) (by omega)
        have d2 : dkA l a1 ≤ l.length := dkA_le d1
        generalize dkA l a1 = a2 at *
        generalize dkX l a1 5 = e at *
        by_cases he0 : e - 1 < 0
        · obtain rfl : e = 0 := by omega
          have sk := sskip_neg sd h n g (-1) hs (by omega)
          obtain ⟨f1, f2, f3⟩ := fin n g hn
          have hmin : (if (p : Int) - n < -1 then (p : Int) - n else -1) = -1 := if_neg (by omega)
          have hmax : ¬ (p : Int) - n < -1 := by omega
          clear hp
          repeat' (first
    | ((first | refine arun_go0 rfl fun K9 h9 => ?_ | refine arunD_goF rfl rfl fun K9 h9 => ?_ | refine arunD_goT rfl rfl fun K9 h9 => ?_ | (refine arun_go ?_ ?_; (focus (simp [h8i, hsl, hmin, hmax, aeq_key]; done)); intro K9 h9) | ((first | refine arunD_gF rfl ?_ ?_ | refine arunD_gT rfl ?_ ?_); (focus (simp [h8i, hsl, hmin, hmax, aeq_key]; done)); intro K9 h9)); simp (disch := (first | (simp; done) | omega | (simp; omega))) [h8i, hsl, hmin, hmax, aeq_key]; (try simp (disch := (first | omega | (simp; omega))) only [wrap_i64, wrap_u8, wrap_u32, wrap_u64, Int.tmod_eq_emod_of_nonneg, Int.tdiv_eq_ediv_of_nonneg]); (first | refine acall_view hdl ⟨view_ref rfl (by simp [dk]) (dk_pures _ _), trivial⟩ .bool ?_ | refine acall_mut 2 nc rfl (by simp) (by simp) .int (by simp) ?_ | refine acall_mut 2 n2 rfl (by simp) (by simp) .int (by simp) ?_ | refine acall_view sk ⟨view_sg rfl rfl, .pure .int, trivial⟩ .int ?_ | refine acall_view f1 ⟨view_sg rfl rfl, trivial⟩ .int ?_ | refine acall_view f2 ⟨view_sg rfl rfl, trivial⟩ .int ?_ | refine acallF_sg 0 1 f3 (by omega) rfl rfl (trR_pures _ _ _) (trR_pures _ _ _) (by simp) (by simp) ?_ | refine acall_pure (hko) (by simp) ?_ | skip); (repeat (refine And.intro (by first | omega | (simp; first | done | omega) | assumption | (intro e9; have e8 := congrArg List.length e9; first | (simp at e8; done) | ((try simp only [List.length_map, List.length_append] at e8); rw [List.length_nil] at e8; omega))) ?_)); (first | refine h9 _ _ (arun_slots (by first | (dsimp only [sput, sset]; done) | rfl) ?_) | refine h9 _ _ (arunD_slots' (by first | (dsimp only [sput, sset]; done) | rfl) (by first | (dsimp only [List.tail]; done) | rfl) ?_)); clear h9 K9)
    | (refine arun_end ?_)
    | (refine arunD_end ?_)
    | (refine awp_seq fun K hK => ?_)
    | (refine awp_region ?_)
    | (refine hK _ _ ?_; clear hK K)
    | ((first | refine awp_region_draw' (m := 0) (by decide +kernel) [0, 0, 0, 0, 0, 0, 0, 0, 0, 0, 0, 0, 0, 0, 0, 2, 1] (by kernel_rfl) (by decide +kernel) ?_ | refine awp_region_draw' (m := 0) (by decide +kernel) [] (by kernel_rfl) (by decide +kernel) ?_); dsimp only [List.replicate, List.append_nil, List.cons_append, List.nil_append, List.length_cons, List.length_nil])
    | (refine awp_block ?_)
    | (refine awp_cond rfl (fun hcnd => ?_) (fun hcnd => ?_) <;> (try simp at hcnd) <;> (try contradiction) <;> (try (exfalso; omega)))
    | (refine awp_skip ?_)
    | (refine awp_exit ?_; simp only [athen_normal, athen_exit, athen_ret, ablock_self, ablock_ne, ablock_normal, ablock_ret, Nat.reduceBEq])
    | (refine awp_ret ?_; refine ret_go ?_)
    | (refine arun_no ?_ ?_; (focus (simp [h8i, hsl, hmin, hmax, aeq_key]; done)); refine arun_slots (by first | (dsimp only [sput, sset]; done) | rfl) ?_)
    | ((first | refine arunD_nF rfl ?_ ?_ | refine arunD_nT rfl ?_ ?_); (focus (simp [h8i, hsl, hmin, hmax, aeq_key]; done)); refine arunD_slots' (by first | (dsimp only [sput, sset]; done) | rfl) (by first | (dsimp only [List.tail]; done) | rfl) ?_)
    | (refine fall_go ?_)
    | (simp only [athen_normal, athen_exit, athen_ret, ablock_self, ablock_ne, ablock_normal, ablock_ret, Nat.reduceBEq])
    | (clear hK K; refine hK _ _ ?_; clear hK K)
    | (clear hK K; clear hK K; refine hK _ _ ?_; clear hK K)
    | (clear hK K; clear hK K; clear hK K; refine hK _ _ ?_; clear hK K)
    | (clear hK K; clear hK K; clear hK K; clear hK K; refine hK _ _ ?_; clear hK K)
    | (clear hK K; clear hK K; clear hK K; clear hK K; clear hK K; refine hK _ _ ?_; clear hK K))
          refine hL (i + 1, a2, n, true) _ _ ⟨by dsimp only; omega, d2, by dsimp only; omega⟩ (by dsimp only; omega) ?_
          exact Le.mk [some 0, some 1, some 2] (by dsimp only [ups_some, ups_none, ups_nil, ups_nil']; simp <;> (intros; omega)) (rowsRen_of (by simp) (by simp [rowsOver, rowRen_live, rens_pures, sgR])) (by simp)
        · obtain ⟨w, hw⟩ : ∃ w : Nat, (if ((2 ^ h - n : Nat) : Int) < e - 1 then ((2 ^ h - n : Nat) : Int) else e - 1) = w := by
            split
            · exact ⟨_, rfl⟩
            · exact ⟨(e - 1).toNat, by omega⟩
          have sk := sskip_call sd h n g (e - 1) w hs hh8 (by omega) (by omega) hw
          have hwp : n + w ≤ p := by rw [hp] at hw; split at hw <;> omega
          have hmin : (if (p : Int) - n < e - 1 then (p : Int) - n else e - 1) = w := by
            rw [← hw, hp, show ((p - n : Nat) : Int) = (p : Int) - n by omega]
          have hmax : (if (0 : Int) < (w : Int) then (w : Int) else 0) = w := by split <;> omega
          obtain ⟨f1, f2, f3⟩ := fin (n + w) g hwp
          clear hp hw
          repeat' (first
    | ((first | refine arun_go0 rfl fun K9 h9 => ?_ | refine arunD_goF rfl rfl fun K9 h9 => ?_ | refine arunD_goT rfl rfl fun K9 h9 => ?_ | (refine arun_go ?_ ?_; (focus (simp [h8i, hsl, hmin, hmax, aeq_key]; done)); intro K9 h9) | ((first | refine arunD_gF rfl ?_ ?_ | refine arunD_gT rfl ?_ ?_); (focus (simp [h8i, hsl, hmin, hmax, aeq_key]; done)); intro K9 h9)); simp (disch := (first | (simp; done) | omega | (simp; omega))) [h8i, hsl, hmin, hmax, aeq_key]; (try simp (disch := (first | omega | (simp; omega))) only [wrap_i64, wrap_u8, wrap_u32, wrap_u64, Int.tmod_eq_emod_of_nonneg, Int.tdiv_eq_ediv_of_nonneg]); (first | refine acall_view hdl ⟨view_ref rfl (by simp [dk]) (dk_pures _ _), trivial⟩ .bool ?_ | refine acall_mut 2 nc rfl (by simp) (by simp) .int (by simp) ?_ | refine acall_mut 2 n2 rfl (by simp) (by simp) .int (by simp) ?_ | refine acall_sg 0 1 sk (by omega) rfl rfl (trR_pures _ _ _) (trR_pures _ _ _) (by simp) (by simp) ?_ | refine acall_view f1 ⟨view_sg rfl rfl, trivial⟩ .int ?_ | refine acall_view f2 ⟨view_sg rfl rfl, trivial⟩ .int ?_ | refine acallF_sg 0 1 f3 (by omega) rfl rfl (trR_pures _ _ _) (trR_pures _ _ _) (by simp) (by simp) ?_ | refine acall_pure (hko) (by simp) ?_ | skip); (repeat (refine And.intro (by first | omega | (simp; first | done | omega) | assumption | (intro e9; have e8 := congrArg List.length e9; first | (simp at e8; done) | ((try simp only [List.length_map, List.length_append] at e8); rw [List.length_nil] at e8; omega))) ?_)); (first | refine h9 _ _ (arun_slots (by first | (dsimp only [sput, sset]; done) | rfl) ?_) | refine h9 _ _ (arunD_slots' (by first | (dsimp only [sput, sset]; done) | rfl) (by first | (dsimp only [List.tail]; done) | rfl) ?_)); clear h9 K9)
    | (refine arun_end ?_)
    | (refine arunD_end ?_)
    | (refine awp_seq fun K hK => ?_)
    | (refine awp_region ?_)
    | (refine hK _ _ ?_; clear hK K)
    | ((first | refine awp_region_draw' (m := 0) (by decide +kernel) [0, 0, 0, 0, 0, 0, 0, 0, 0, 0, 0, 0, 0, 0, 0, 2, 1] (by kernel_rfl) (by decide +kernel) ?_ | refine awp_region_draw' (m := 0) (by decide +kernel) [] (by kernel_rfl) (by decide +kernel) ?_); dsimp only [List.replicate, List.append_nil, List.cons_append, List.nil_append, List.length_cons, List.length_nil])
    | (refine awp_block ?_)
    | (refine awp_cond rfl (fun hcnd => ?_) (fun hcnd => ?_) <;> (try simp at hcnd) <;> (try contradiction) <;> (try (exfalso; omega)))
    | (refine awp_skip ?_)
    | (refine awp_exit ?_; simp only [athen_normal, athen_exit, athen_ret, ablock_self, ablock_ne, ablock_normal, ablock_ret, Nat.reduceBEq])
    | (refine awp_ret ?_; refine ret_go ?_)
    | (refine arun_no ?_ ?_; (focus (simp [h8i, hsl, hmin, hmax, aeq_key]; done)); refine arun_slots (by first | (dsimp only [sput, sset]; done) | rfl) ?_)
    | ((first | refine arunD_nF rfl ?_ ?_ | refine arunD_nT rfl ?_ ?_); (focus (simp [h8i, hsl, hmin, hmax, aeq_key]; done)); refine arunD_slots' (by first | (dsimp only [sput, sset]; done) | rfl) (by first | (dsimp only [List.tail]; done) | rfl) ?_)
    | (refine fall_go ?_)
    | (simp only [athen_normal, athen_exit, athen_ret, ablock_self, ablock_ne, ablock_normal, ablock_ret, Nat.reduceBEq])
    | (clear hK K; refine hK _ _ ?_; clear hK K)
    | (clear hK K; clear hK K; refine hK _ _ ?_; clear hK K)
    | (clear hK K; clear hK K; clear hK K; refine hK _ _ ?_; clear hK K)
    | (clear hK K; clear hK K; clear hK K; clear hK K; refine hK _ _ ?_; clear hK K)
    | (clear hK K; clear hK K; clear hK K; clear hK K; clear hK K; refine hK _ _ ?_; clear hK K))
          refine hL (i + 1, a2, n + w, true) _ _ ⟨by dsimp only; omega, d2, by dsimp only; omega⟩ (by dsimp only; omega) ?_
          exact Le.mk [some 0, some 1, some 2] (by dsimp only [ups_some, ups_none, ups_nil, ups_nil']; simp <;> (intros; omega)) (rowsRen_of (by simp) (by simp [rowsOver, rowRen_live, rens_pures, sgR])) (by simp)
      · have n2 := next_call l a1 3 hl d1 (by omega) (by omega) hr
        have b2 := dkX_bounds (l := l) (a := a1) (n := 3) (by omega)
        have d2 : dkA l a1 ≤ l.length := dkA_le d1
        generalize dkA l a1 = a2 at *
        generalize dkX l a1 3 = e at *
        have fk := fork_call sd h n g hs
        obtain ⟨w, hw⟩ : ∃ w : Nat, (if ((2 ^ h - n : Nat) : Int) < e then ((2 ^ h - n : Nat) : Int) else e) = w := by
          split
          · exact ⟨_, rfl⟩
          · exact ⟨e.toNat, by omega⟩
        have sk := sskip_call sd h n g e w hs hh8 (by omega) (by omega) hw
        have hwp : n + w ≤ p := by rw [hp] at hw; split at hw <;> omega
        obtain ⟨f1, f2, f3⟩ := fin n g hn
        clear hp hw
        repeat' (first
    | ((first | refine arun_go0 rfl fun K9 h9 => ?_ | refine arunD_goF rfl rfl fun K9 h9 => ?_ | refine arunD_goT rfl rfl fun K9 h9 => ?_ | (refine arun_go ?_ ?_; (focus (simp [h8i, hsl, aeq_key]; done)); intro K9 h9) | ((first | refine arunD_gF rfl ?_ ?_ | refine arunD_gT rfl ?_ ?_); (focus (simp [h8i, hsl, aeq_key]; done)); intro K9 h9)); simp (disch := (first | (simp; done) | omega | (simp; omega))) [h8i, hsl, aeq_key]; (try simp (disch := (first | omega | (simp; omega))) only [wrap_i64, wrap_u8, wrap_u32, wrap_u64, Int.tmod_eq_emod_of_nonneg, Int.tdiv_eq_ediv_of_nonneg]); (first | refine acall_view hdl ⟨view_ref rfl (by simp [dk]) (dk_pures _ _), trivial⟩ .bool ?_ | refine acall_mut 2 nc rfl (by simp) (by simp) .int (by simp) ?_ | refine acall_mut 2 n2 rfl (by simp) (by simp) .int (by simp) ?_ | refine acall_fork 0 1 fk (by omega) rfl rfl (trR_pures _ _ _) ?_ | refine acall_sg 0 1 sk (by omega) rfl rfl (trR_pures _ _ _) (trR_pures _ _ _) (by simp) (by simp) ?_ | refine acall_view f1 ⟨view_sg rfl rfl, trivial⟩ .int ?_ | refine acall_view f2 ⟨view_sg rfl rfl, trivial⟩ .int ?_ | refine acallF_sg 0 3 f3 (by omega) rfl rfl (trR_pures _ _ _) (trR_pures _ _ _) (by simp) (by simp) ?_ | refine acall_pure (hko) (by simp) ?_ | skip); (repeat (refine And.intro (by first | omega | (simp; first | done | omega) | assumption | (intro e9; have e8 := congrArg List.length e9; first | (simp at e8; done) | ((try simp only [List.length_map, List.length_append] at e8); rw [List.length_nil] at e8; omega))) ?_)); (first | refine h9 _ _ (arun_slots (by first | (dsimp only [sput, sset]; done) | rfl) ?_) | refine h9 _ _ (arunD_slots' (by first | (dsimp only [sput, sset]; done) | rfl) (by first | (dsimp only [List.tail]; done) | rfl) ?_)); clear h9 K9)
    | (refine arun_end ?_)
    | (refine arunD_end ?_)
    | (refine awp_seq fun K hK => ?_)
    | (refine awp_region ?_)
    | (refine hK _ _ ?_; clear hK K)
    | ((first | refine awp_region_draw' (m := 0) (by decide +kernel) [0, 0, 0, 0, 0, 0, 0, 0, 0, 0, 0, 0, 0, 0, 0, 2, 1] (by kernel_rfl) (by decide +kernel) ?_ | refine awp_region_draw' (m := 0) (by decide +kernel) [] (by kernel_rfl) (by decide +kernel) ?_); dsimp only [List.replicate, List.append_nil, List.cons_append, List.nil_append, List.length_cons, List.length_nil])
    | (refine awp_block ?_)
    | (refine awp_cond rfl (fun hcnd => ?_) (fun hcnd => ?_) <;> (try simp at hcnd) <;> (try contradiction) <;> (try (exfalso; omega)))
    | (refine awp_skip ?_)
    | (refine awp_exit ?_; simp only [athen_normal, athen_exit, athen_ret, ablock_self, ablock_ne, ablock_normal, ablock_ret, Nat.reduceBEq])
    | (refine awp_ret ?_; refine ret_go ?_)
    | (refine arun_no ?_ ?_; (focus (simp [h8i, hsl, aeq_key]; done)); refine arun_slots (by first | (dsimp only [sput, sset]; done) | rfl) ?_)
    | ((first | refine arunD_nF rfl ?_ ?_ | refine arunD_nT rfl ?_ ?_); (focus (simp [h8i, hsl, aeq_key]; done)); refine arunD_slots' (by first | (dsimp only [sput, sset]; done) | rfl) (by first | (dsimp only [List.tail]; done) | rfl) ?_)
    | (refine fall_go ?_)
    | (simp only [athen_normal, athen_exit, athen_ret, ablock_self, ablock_ne, ablock_normal, ablock_ret, Nat.reduceBEq])
    | (clear hK K; refine hK _ _ ?_; clear hK K)
    | (clear hK K; clear hK K; refine hK _ _ ?_; clear hK K)
    | (clear hK K; clear hK K; clear hK K; refine hK _ _ ?_; clear hK K)
    | (clear hK K; clear hK K; clear hK K; clear hK K; refine hK _ _ ?_; clear hK K)
    | (clear hK K; clear hK K; clear hK K; clear hK K; clear hK K; refine hK _ _ ?_; clear hK K))
        refine hL (i + 1, a2, n, true) _ _ ⟨by dsimp only; omega, d2, by dsimp only; omega⟩ (by dsimp only; omega) ?_
        exact Le.mk [some 0, some 3, some 2] (by dsimp only [ups_some, ups_none, ups_nil, ups_nil']; simp <;> (intros; omega)) (rowsRen_of (by simp) (by simp [rowsOver, rowRen_live, rens_pures, sgR])) (by simp)
      · have sv := ssave_call sd h n g hs
        have rsv : PCall Try.prog 16 [.str sd, .int .i64 h, .int .i64 n] (.str (saveS sd h n)) := save_call sd h n (by omega)
        have ld := sload_save sd h n hs hh8 (by omega)
        generalize saveS sd h n = sav at *
        obtain ⟨f1, f2, f3⟩ := fin n false hn
        clear hp
        repeat' (first
    | ((first | refine arun_go0 rfl fun K9 h9 => ?_ | refine arunD_goF rfl rfl fun K9 h9 => ?_ | refine arunD_goT rfl rfl fun K9 h9 => ?_ | (refine arun_go ?_ ?_; (focus (simp [h8i, hsl, aeq_key]; done)); intro K9 h9) | ((first | refine arunD_gF rfl ?_ ?_ | refine arunD_gT rfl ?_ ?_); (focus (simp [h8i, hsl, aeq_key]; done)); intro K9 h9)); simp (disch := (first | (simp; done) | omega | (simp; omega))) [h8i, hsl, aeq_key]; (try simp (disch := (first | omega | (simp; omega))) only [wrap_i64, wrap_u8, wrap_u32, wrap_u64, Int.tmod_eq_emod_of_nonneg, Int.tdiv_eq_ediv_of_nonneg]); (first | refine acall_view hdl ⟨view_ref rfl (by simp [dk]) (dk_pures _ _), trivial⟩ .bool ?_ | refine acall_mut 2 nc rfl (by simp) (by simp) .int (by simp) ?_ | refine acall_pure (hms) (by simp) ?_ | refine acall_pure (rsv) (by simp) ?_ | refine acall_view sv ⟨view_sg rfl rfl, trivial⟩ .str ?_ | refine acall_news ld (trR_pures _ _ _) .int (by simp) ?_ | refine acall_view f1 ⟨view_sg rfl rfl, trivial⟩ .int ?_ | refine acall_view f2 ⟨view_sg rfl rfl, trivial⟩ .int ?_ | refine acallF_sg 3 4 f3 (by omega) rfl rfl (trR_pures _ _ _) (trR_pures _ _ _) (by simp) (by simp) ?_ | refine acall_pure (hko) (by simp) ?_ | skip); (repeat (refine And.intro (by first | omega | (simp; first | done | omega) | assumption | (intro e9; have e8 := congrArg List.length e9; first | (simp at e8; done) | ((try simp only [List.length_map, List.length_append] at e8); rw [List.length_nil] at e8; omega))) ?_)); (first | refine h9 _ _ (arun_slots (by first | (dsimp only [sput, sset]; done) | rfl) ?_) | refine h9 _ _ (arunD_slots' (by first | (dsimp only [sput, sset]; done) | rfl) (by first | (dsimp only [List.tail]; done) | rfl) ?_)); clear h9 K9)
    | (refine arun_end ?_)
    | (refine arunD_end ?_)
    | (refine awp_seq fun K hK => ?_)
    | (refine awp_region ?_)
    | (refine hK _ _ ?_; clear hK K)
    | ((first | refine awp_region_draw' (m := 0) (by decide +kernel) [0, 0, 0, 0, 0, 0, 0, 0, 0, 0, 0, 0, 0, 0, 0, 2, 1] (by kernel_rfl) (by decide +kernel) ?_ | refine awp_region_draw' (m := 0) (by decide +kernel) [] (by kernel_rfl) (by decide +kernel) ?_); dsimp only [List.replicate, List.append_nil, List.cons_append, List.nil_append, List.length_cons, List.length_nil])
    | (refine awp_block ?_)
    | (refine awp_cond rfl (fun hcnd => ?_) (fun hcnd => ?_) <;> (try simp at hcnd) <;> (try contradiction) <;> (try (exfalso; omega)))
    | (refine awp_skip ?_)
    | (refine awp_exit ?_; simp only [athen_normal, athen_exit, athen_ret, ablock_self, ablock_ne, ablock_normal, ablock_ret, Nat.reduceBEq])
    | (refine awp_ret ?_; refine ret_go ?_)
    | (refine arun_no ?_ ?_; (focus (simp [h8i, hsl, aeq_key]; done)); refine arun_slots (by first | (dsimp only [sput, sset]; done) | rfl) ?_)
    | ((first | refine arunD_nF rfl ?_ ?_ | refine arunD_nT rfl ?_ ?_); (focus (simp [h8i, hsl, aeq_key]; done)); refine arunD_slots' (by first | (dsimp only [sput, sset]; done) | rfl) (by first | (dsimp only [List.tail]; done) | rfl) ?_)
    | (refine fall_go ?_)
    | (simp only [athen_normal, athen_exit, athen_ret, ablock_self, ablock_ne, ablock_normal, ablock_ret, Nat.reduceBEq])
    | (clear hK K; refine hK _ _ ?_; clear hK K)
    | (clear hK K; clear hK K; refine hK _ _ ?_; clear hK K)
    | (clear hK K; clear hK K; clear hK K; refine hK _ _ ?_; clear hK K)
    | (clear hK K; clear hK K; clear hK K; clear hK K; refine hK _ _ ?_; clear hK K)
    | (clear hK K; clear hK K; clear hK K; clear hK K; clear hK K; refine hK _ _ ?_; clear hK K))
        refine hL (i + 1, a1, n, true) _ _ ⟨by dsimp only; omega, d1, by dsimp only; omega⟩ (by dsimp only; omega) ?_
        exact Le.mk [some 3, some 4, some 2] (by dsimp only [ups_some, ups_none, ups_nil, ups_nil']; simp <;> (intros; omega)) (rowsRen_of (by simp) (by simp [rowsOver, rowRen_live, rens_pures, sgR])) (by simp)
    · rw [decide_eq_false (by omega)] at hdl
      repeat' (first
    | ((first | refine arun_go0 rfl fun K9 h9 => ?_ | refine arunD_goF rfl rfl fun K9 h9 => ?_ | refine arunD_goT rfl rfl fun K9 h9 => ?_ | (refine arun_go ?_ ?_; (focus (simp [h8i]; done)); intro K9 h9) | ((first | refine arunD_gF rfl ?_ ?_ | refine arunD_gT rfl ?_ ?_); (focus (simp [h8i]; done)); intro K9 h9)); simp (disch := (first | (simp; done) | omega | (simp; omega))) [h8i]; (try simp (disch := (first | omega | (simp; omega))) only [wrap_i64, wrap_u8, wrap_u32, wrap_u64, Int.tmod_eq_emod_of_nonneg, Int.tdiv_eq_ediv_of_nonneg]); (first | refine acall_pure (awake13_call) (by simp) ?_ | refine acall_view hdl ⟨view_ref rfl (by simp [dk]) (dk_pures _ _), trivial⟩ .bool ?_ | skip); (repeat (refine And.intro (by first | omega | (simp; first | done | omega) | assumption | (intro e9; have e8 := congrArg List.length e9; first | (simp at e8; done) | ((try simp only [List.length_map, List.length_append] at e8); rw [List.length_nil] at e8; omega))) ?_)); (first | refine h9 _ _ (arun_slots (by first | (dsimp only [sput, sset]; done) | rfl) ?_) | refine h9 _ _ (arunD_slots' (by first | (dsimp only [sput, sset]; done) | rfl) (by first | (dsimp only [List.tail]; done) | rfl) ?_)); clear h9 K9)
    | (refine arun_end ?_)
    | (refine arunD_end ?_)
    | (refine awp_seq fun K hK => ?_)
    | (refine awp_region ?_)
    | (refine hK _ _ ?_; clear hK K)
    | ((first | refine awp_region_draw' (m := 0) (by decide +kernel) [] (by kernel_rfl) (by decide +kernel) ?_); dsimp only [List.replicate, List.append_nil, List.cons_append, List.nil_append, List.length_cons, List.length_nil])
    | (refine awp_block ?_)
    | (refine awp_cond rfl (fun hcnd => ?_) (fun hcnd => ?_) <;> (try simp at hcnd) <;> (try contradiction) <;> (try (exfalso; omega)))
    | (refine awp_skip ?_)
    | (refine awp_exit ?_; simp only [athen_normal, athen_exit, athen_ret, ablock_self, ablock_ne, ablock_normal, ablock_ret, Nat.reduceBEq])
    | (refine awp_ret ?_; refine ret_go ?_)
    | (refine arun_no ?_ ?_; (focus (simp [h8i]; done)); refine arun_slots (by first | (dsimp only [sput, sset]; done) | rfl) ?_)
    | ((first | refine arunD_nF rfl ?_ ?_ | refine arunD_nT rfl ?_ ?_); (focus (simp [h8i]; done)); refine arunD_slots' (by first | (dsimp only [sput, sset]; done) | rfl) (by first | (dsimp only [List.tail]; done) | rfl) ?_)
    | (refine fall_go ?_)
    | (simp only [athen_normal, athen_exit, athen_ret, ablock_self, ablock_ne, ablock_normal, ablock_ret, Nat.reduceBEq])
    | (clear hK K; refine hK _ _ ?_; clear hK K)
    | (clear hK K; clear hK K; refine hK _ _ ?_; clear hK K)
    | (clear hK K; clear hK K; clear hK K; refine hK _ _ ?_; clear hK K)
    | (clear hK K; clear hK K; clear hK K; clear hK K; refine hK _ _ ?_; clear hK K)
    | (clear hK K; clear hK K; clear hK K; clear hK K; clear hK K; refine hK _ _ ?_; clear hK K))
      simp
      exact .pure .bool
  · obtain rfl : i = 8 := by omega
    repeat' (first
    | ((first | refine arun_go0 rfl fun K9 h9 => ?_ | refine arunD_goF rfl rfl fun K9 h9 => ?_ | refine arunD_goT rfl rfl fun K9 h9 => ?_ | (refine arun_go ?_ ?_; (focus (simp ; done)); intro K9 h9) | ((first | refine arunD_gF rfl ?_ ?_ | refine arunD_gT rfl ?_ ?_); (focus (simp ; done)); intro K9 h9)); simp (disch := (first | (simp; done) | omega | (simp; omega))) ; (try simp (disch := (first | omega | (simp; omega))) only [wrap_i64, wrap_u8, wrap_u32, wrap_u64, Int.tmod_eq_emod_of_nonneg, Int.tdiv_eq_ediv_of_nonneg]); (first | refine acall_pure (awake13_call) (by simp) ?_ | skip); (repeat (refine And.intro (by first | omega | (simp; first | done | omega) | assumption | (intro e9; have e8 := congrArg List.length e9; first | (simp at e8; done) | ((try simp only [List.length_map, List.length_append] at e8); rw [List.length_nil] at e8; omega))) ?_)); (first | refine h9 _ _ (arun_slots (by first | (dsimp only [sput, sset]; done) | rfl) ?_) | refine h9 _ _ (arunD_slots' (by first | (dsimp only [sput, sset]; done) | rfl) (by first | (dsimp only [List.tail]; done) | rfl) ?_)); clear h9 K9)
    | (refine arun_end ?_)
    | (refine arunD_end ?_)
    | (refine awp_seq fun K hK => ?_)
    | (refine awp_region ?_)
    | (refine hK _ _ ?_; clear hK K)
    | ((first | refine awp_region_draw' (m := 0) (by decide +kernel) [] (by kernel_rfl) (by decide +kernel) ?_); dsimp only [List.replicate, List.append_nil, List.cons_append, List.nil_append, List.length_cons, List.length_nil])
    | (refine awp_block ?_)
    | (refine awp_cond rfl (fun hcnd => ?_) (fun hcnd => ?_) <;> (try simp at hcnd) <;> (try contradiction) <;> (try (exfalso; omega)))
    | (refine awp_skip ?_)
    | (refine awp_exit ?_; simp only [athen_normal, athen_exit, athen_ret, ablock_self, ablock_ne, ablock_normal, ablock_ret, Nat.reduceBEq])
    | (refine awp_ret ?_; refine ret_go ?_)
    | (refine arun_no ?_ ?_; (focus (simp ; done)); refine arun_slots (by first | (dsimp only [sput, sset]; done) | rfl) ?_)
    | ((first | refine arunD_nF rfl ?_ ?_ | refine arunD_nT rfl ?_ ?_); (focus (simp ; done)); refine arunD_slots' (by first | (dsimp only [sput, sset]; done) | rfl) (by first | (dsimp only [List.tail]; done) | rfl) ?_)
    | (refine fall_go ?_)
    | (simp only [athen_normal, athen_exit, athen_ret, ablock_self, ablock_ne, ablock_normal, ablock_ret, Nat.reduceBEq])
    | (clear hK K; refine hK _ _ ?_; clear hK K)
    | (clear hK K; clear hK K; refine hK _ _ ?_; clear hK K)
    | (clear hK K; clear hK K; clear hK K; refine hK _ _ ?_; clear hK K)
    | (clear hK K; clear hK K; clear hK K; clear hK K; refine hK _ _ ?_; clear hK K)
    | (clear hK K; clear hK K; clear hK K; clear hK K; clear hK K; refine hK _ _ ?_; clear hK K))
    simp
    exact .pure .bool
  · exact .bool
set_option maxRecDepth 100000 in
theorem signerPlays_fits : ∀ xs, FitsAll Try.prog 8 Try.f12.params.toList xs → PCall Try.prog 12 xs (.bool true) := by
  intro xs h
  rw [show Try.f12.params.toList = [5, 5, 22] by kernel_rfl] at h
  obtain ⟨x1, xs, rfl, h1, h⟩ := fitsAll_cons h
  obtain ⟨x2, xs, rfl, h2, h⟩ := fitsAll_cons h
  obtain ⟨x3, xs, rfl, h3, h⟩ := fitsAll_cons h
  obtain rfl := fitsAll_nil h
  obtain ⟨k, rfl⟩ := fits_u8 (by kernel_rfl) h1
  obtain ⟨n, rfl⟩ := fits_u8 (by kernel_rfl) h2
  obtain ⟨l, hl, hr, rfl⟩ := fits_ints (e := 3) (by kernel_rfl) (by kernel_rfl) h3
  exact signerPlays_call k n l hl hr
end Go.Proofs.Ythcdofbmmibgjaa
