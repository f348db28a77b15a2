/-
  STEP: StepUnlimited.
  Conditions: none.
-/
import Derived.Test.YtjlifjmjnhdcmaaGk
import Derived.Test.YtjlifjmjnhdcmaaGd
namespace Go.Stp
open Go.VS
/-- At the head of a round: i rounds begun, the state s, the deck used up to a. -/
structure HU (N : Int) (l : Nat) (i : Nat) (s : Pg) (a : Nat) : Prop where
  i1 : 1 ≤ i
  iN : (i : Int) ≤ N
  len : 9 - (i : Int) ≤ s.len ∧ s.len ≤ 8
  expl : 10 - (i : Int) ≤ s.expl ∧ s.expl ≤ 9
  map : 10 - (i : Int) ≤ s.map ∧ s.map ≤ 9
  any : 10 - (i : Int) ≤ s.any ∧ s.any ≤ 9
  names : s.names = []
  iss : WN s.issuer
  deck : a ≤ l
theorem leastS_none (n : Int) : leastS n (-1) = n := by simp [leastS]
theorem fallS_le (b : Bool) (n : Int) (h : 0 < n) : n - 1 ≤ fallS b n ∧ fallS b n ≤ n := by
  unfold fallS decS
  rw [if_pos h]
  split <;> omega
end Go.Stp
namespace Go.Proofs.Ytjlifjmjnhdcmaa
open Go.VS Go.Stp
set_option linter.all false
set_option maxRecDepth 100000
set_option maxHeartbeats 8000000

theorem hu_leave {N : Int} {l i a a' : Nat} {s : Pg} (hN : N ≤ 8) (h : HU N l i s a) (hi : (i : Int) < N) (f t : Nat) (ha : a' ≤ l) : leaveK s (ce0 f t true) = 0 ∧ HU N l (i + 1) (leaveP s (ce0 f t true)) a' := by
  obtain ⟨h1, h2, h3, h4, h5, h6, h7, h8, h9⟩ := h
  have e := fallS_le (selfB (ce0 f t true)) s.expl (by omega)
  have m := fallS_le (selfB (ce0 f t true)) s.map (by omega)
  have y := fallS_le (selfB (ce0 f t true)) s.any (by omega)
  refine ⟨?_, by omega, by omega, ?_, ?_, ?_, ?_, ?_, ?_, ha⟩
  · unfold leaveK
    rw [if_neg (show ¬ (ce0 f t true).info.maps.any specB = true by simp [ce0, noneI]), if_neg (show ¬ (ce0 f t true).info.ca = false by simp [ce0]), if_neg (by omega), if_neg (show ¬ ((ce0 f t true).info.usage ≠ 0 ∧ _) from fun h => h.1 rfl)]
  · show 9 - ((i + 1 : Nat) : Int) ≤ leastS (if selfB (ce0 f t true) then s.len else s.len - 1) (-1) ∧ leastS (if selfB (ce0 f t true) then s.len else s.len - 1) (-1) ≤ 8
    rw [leastS_none]
    split <;> omega
  · show 10 - ((i + 1 : Nat) : Int) ≤ leastS (fallS (selfB (ce0 f t true)) s.expl) (-1) ∧ leastS (fallS (selfB (ce0 f t true)) s.expl) (-1) ≤ 9
    rw [leastS_none]
    omega
  · show 10 - ((i + 1 : Nat) : Int) ≤ leastS (fallS (selfB (ce0 f t true)) s.map) (-1) ∧ leastS (fallS (selfB (ce0 f t true)) s.map) (-1) ≤ 9
    rw [leastS_none]
    omega
  · show 10 - ((i + 1 : Nat) : Int) ≤ leastS (fallS (selfB (ce0 f t true)) s.any) (-1) ∧ leastS (fallS (selfB (ce0 f t true)) s.any) (-1) ≤ 9
    rw [leastS_none]
    omega
  · exact h7
  · exact authN_wn _
theorem hu_wlv {N : Int} {l i a : Nat} {s : Pg} (hN : N ≤ 8) (h : HU N l i s a) (f t : Nat) (b : Bool) : WLv s (ce0 f t b) := by
  obtain ⟨h1, h2, h3, h4, h5, h6, h7, h8, h9⟩ := h
  refine ⟨authN_wn _, authN_wn _, by simp [ce0, noneI], ?_, by simp [h7], ⟨⟨by simp [ce0, noneI], fun x h => by simp [ce0, noneI] at h⟩, ⟨by simp [ce0, noneI], fun x h => by simp [ce0, noneI] at h⟩⟩, by unfold I64; omega, by unfold I64; omega, by unfold I64; omega, by unfold I64; omega⟩
  rw [h7]
  exact ⟨by simp, fun x h => by simp at h⟩

attribute [local irreducible] arun arunD arunU AWp aend bits
theorem unlimited_call (l : List Int) (n : Int) (hl : l.length ≤ 140737488355328) (hr : ∀ k ∈ l, -9223372036854775808 ≤ k ∧ k ≤ 9223372036854775807) (hn : -9223372036854775808 ≤ n ∧ n ≤ 9223372036854775807) :
    PCall Try.prog 6 [.sl l.length (l.map (V.int .i64)), .int .i64 n] (.bool true) := by
  have an : PCall Try.prog 9 [.int .i64 0] (.agg [nmV (authN (namedN 0)), .int .i64 (pubK 0).h, .str (pubK 0).id, .str (pubK 0).root]) := anchor_call 0 (by omega)
  have hb : PCall Try.prog 13 [.agg [nmV (authN (namedN 0)), .int .i64 (pubK 0).h, .str (pubK 0).id, .str (pubK 0).root], .agg [.int .i64 0, .str [], .int .i64 0, .nils, .bool false, .bool false, .bool false, .nils, .int .i64 0, .bool false, .nils]] (.agg [nmV (authN (namedN 0)), .int .i64 (pubK 0).h, .str (pubK 0).id, .str (pubK 0).root, .bool true, .int .i64 8, .int .i64 9, .int .i64 9, .int .i64 9, .sl 0 []]) := pcall_nza (begin_call (anc 0) q0 (authN_wn _)) rfl
  have aw := awake_call
  have no := newO_call n
  have nx : GCall Try.prog 10 [.ref 1 0, .int .i64 8] [[.int .i64 n], [.osl 0 0 1 1, .int .i64 0]] ([[.int .i64 n], [.osl 0 0 1 1, .int .i64 1]] ++ []) (.int .i64 (dkX [n] 0 8)) := nextO_call n 8 hn (by omega) (by omega)
  have hm := dkX_bounds (l := [n]) (a := 0) (n := 8) (by omega)
  have hH0 : HU (1 + dkX [n] 0 8) l.length 1 (beginS (anc 0) q0) 0 := ⟨by omega, by omega, by decide, by decide, by decide, by decide, rfl, authN_wn _, by omega⟩
  have hs0 : (beginS (anc 0) q0).c = [nmV (authN (namedN 0)), .int .i64 (pubK 0).h, .str (pubK 0).id, .str (pubK 0).root, .bool true, .int .i64 8, .int .i64 9, .int .i64 9, .int .i64 9, .sl 0 []] := rfl
  generalize dkX [n] 0 8 = m at *
  have hrow : (beginS (anc 0) q0).c = [nmV (beginS (anc 0) q0).issuer, .int .i64 (beginS (anc 0) q0).key.h, .str (beginS (anc 0) q0).key.id, .str (beginS (anc 0) q0).key.root, .bool (beginS (anc 0) q0).lists, .int .i64 (beginS (anc 0) q0).len, .int .i64 (beginS (anc 0) q0).expl, .int .i64 (beginS (anc 0) q0).map, .int .i64 (beginS (anc 0) q0).any, sbsV (beginS (anc 0) q0).names] := rfl
  rw [hs0] at hrow
  generalize authN (namedN 0) = N0 at *
  generalize pubK 0 = K0 at *
  generalize beginS (anc 0) q0 = s0 at *
  refine pcall_body Try.func6 rfl Try.call6 ?_ ?_
  rotate_left 1
  refine awp_slots (s' := ((.sl l.length (l.map (V.int .i64)) : V) :: (.int .i64 n : V) :: V.junk :: V.junk :: V.junk :: V.junk :: V.junk :: V.junk :: V.junk :: V.junk :: V.junk :: V.junk :: V.junk :: V.junk :: V.junk :: V.junk :: V.junk :: V.junk :: V.junk :: V.junk :: V.junk :: V.junk :: V.junk :: V.junk :: V.junk :: V.junk :: V.junk :: V.junk :: V.junk :: V.junk :: V.junk :: V.junk :: V.junk :: V.junk :: V.junk :: V.junk :: V.junk :: V.junk :: V.junk :: V.junk :: V.junk :: V.junk :: V.junk :: V.junk :: V.junk :: V.junk :: V.junk :: V.junk :: V.junk :: V.junk :: V.junk :: V.junk :: V.junk :: V.junk :: V.junk :: V.junk :: V.junk :: V.junk :: V.junk :: V.junk :: V.junk :: V.junk :: V.junk :: V.junk :: V.junk :: V.junk :: V.junk :: V.junk :: V.junk :: [])) rfl ?_
  repeat' (first
    | ((first | refine arun_go0 rfl fun K9 h9 => ?_ | refine arunD_goF rfl rfl fun K9 h9 => ?_ | refine arunD_goT rfl rfl fun K9 h9 => ?_ | (refine arun_go ?_ ?_; (focus (simp ; done)); intro K9 h9) | ((first | refine arunD_gF rfl ?_ ?_ | refine arunD_gT rfl ?_ ?_); (focus (simp ; done)); intro K9 h9)); simp (disch := (first | (simp; done) | omega | (simp; omega))) ; (try simp (disch := (first | omega | (simp; omega))) only [wrap_i64, wrap_u8, wrap_u32, wrap_u64, Int.tmod_eq_emod_of_nonneg, Int.tdiv_eq_ediv_of_nonneg]); (first | refine acall_new (deck_call l) (dk_pures _ _) (by simp) ?_ | refine acall_pure (an) (by simp) ?_ | refine acall_pure (hb) (by simp) ?_ | refine acall_gen (rows' := [[.int .i64 n]]) (news := [[.osl 0 0 1 1, .int .i64 0]]) [2] [[.int .i64 n]] [[.osl 2 0 1 1, .int .i64 0]] no (by simp) (by simp [rowsOver, rowRen_live]) (by simp) rfl rfl (by simp [behind]) (rc := .ref 3 0) (by simp [behind]) ?_ | refine acall_gen (rows' := [[.int .i64 n], [.osl 0 0 1 1, .int .i64 1]]) (news := []) [2, 3] [[.int .i64 n], [.osl 2 0 1 1, .int .i64 1]] [] nx (by simp) (by simp [rowsOver, rowRen_live]) (by simp) rfl rfl (by simp [behind]) (rc := .int .i64 m) (by simp) ?_ | skip); (repeat (refine And.intro (by first | omega | (simp; first | done | omega) | assumption | (intro e9; have e8 := congrArg List.length e9; first | (simp at e8; done) | ((try simp only [List.length_map, List.length_append] at e8); rw [List.length_nil] at e8; omega))) ?_)); (first | refine h9 _ _ (arun_slots (by first | (dsimp only [sput, sset]; done) | rfl) ?_) | refine h9 _ _ (arunD_slots' (by first | (dsimp only [sput, sset]; done) | rfl) (by first | (dsimp only [List.tail]; done) | rfl) ?_)); clear h9 K9)
    | (refine arun_end ?_)
    | (refine arunD_end ?_)
    | (refine awp_seq fun K hK => ?_)
    | (refine awp_region ?_)
    | (refine hK _ _ ?_; clear hK K)
    | ((first | refine awp_region_draw' (m := 0) (by decide +kernel) [] (by kernel_rfl) (by decide +kernel) ?_); dsimp only [List.replicate, List.append_nil, List.cons_append, List.nil_append, List.length_cons, List.length_nil])
    | (refine awp_block ?_)
    | (refine awp_cond rfl (fun hcnd => ?_) (fun hcnd => ?_) <;> (try simp at hcnd) <;> (try contradiction) <;> (try (exfalso; omega)))
    | (refine awp_skip ?_)
    | (refine awp_exit ?_; simp only [athen_normal, athen_exit, athen_ret, ablock_self, ablock_ne, ablock_normal, ablock_ret, Nat.reduceBEq])
    | (refine awp_ret ?_; refine ret_go ?_)
    | (refine arun_no ?_ ?_; (focus (simp ; done)); refine arun_slots (by first | (dsimp only [sput, sset]; done) | rfl) ?_)
    | ((first | refine arunD_nF rfl ?_ ?_ | refine arunD_nT rfl ?_ ?_); (focus (simp ; done)); refine arunD_slots' (by first | (dsimp only [sput, sset]; done) | rfl) (by first | (dsimp only [List.tail]; done) | rfl) ?_)
    | (refine fall_go ?_)
    | (simp only [athen_normal, athen_exit, athen_ret, ablock_self, ablock_ne, ablock_normal, ablock_ret, Nat.reduceBEq])
    | (clear hK K; refine hK _ _ ?_; clear hK K)
    | (clear hK K; clear hK K; refine hK _ _ ?_; clear hK K)
    | (clear hK K; clear hK K; clear hK K; refine hK _ _ ?_; clear hK K)
    | (clear hK K; clear hK K; clear hK K; clear hK K; refine hK _ _ ?_; clear hK K)
    | (clear hK K; clear hK K; clear hK K; clear hK K; clear hK K; refine hK _ _ ?_; clear hK K))
  refine awp_loopU (α := Nat × Pg × Nat) (fun x => (some V.junk :: none :: none :: none :: some V.junk :: none :: none :: some (V.int .i64 x.1) :: some V.junk :: some V.junk :: some V.junk :: some V.junk :: some V.junk :: some V.junk :: some V.junk :: some V.junk :: some V.junk :: some V.junk :: some V.junk :: some V.junk :: some V.junk :: some V.junk :: some V.junk :: some V.junk :: some V.junk :: some V.junk :: some V.junk :: some V.junk :: some V.junk :: some V.junk :: some V.junk :: some V.junk :: some V.junk :: some V.junk :: some V.junk :: some V.junk :: some V.junk :: some V.junk :: some V.junk :: some V.junk :: some V.junk :: some V.junk :: some V.junk :: some V.junk :: some V.junk :: some V.junk :: some V.junk :: some V.junk :: some V.junk :: some V.junk :: some V.junk :: some V.junk :: some V.junk :: some V.junk :: some V.junk :: some V.junk :: some V.junk :: some V.junk :: some V.junk :: some V.junk :: some V.junk :: some V.junk :: some V.junk :: some V.junk :: some V.junk :: some V.junk :: some V.junk :: some V.junk :: some V.junk :: [])) (fun x => [.live (dk l x.2.2), .live [nmV x.2.1.issuer, .int .i64 x.2.1.key.h, .str x.2.1.key.id, .str x.2.1.key.root, .bool x.2.1.lists, .int .i64 x.2.1.len, .int .i64 x.2.1.expl, .int .i64 x.2.1.map, .int .i64 x.2.1.any, sbsV x.2.1.names]]) (fun x => HU (1 + m) l.length x.1 x.2.1 x.2.2) (fun x => 9 - x.1) (1, s0, 0) hH0 ?_ ?_
  · dsimp only [ups_some, ups_none, ups_nil, ups_nil']
    rw [← hrow]
    exact Le.mk [some 0, some 1] (by simp) (rowsRen_of (by simp) (by simp [rowsOver, rowRen_live, rens_pures])) (by simp)
  clear hH0 hs0 hrow an hb no nx
  rintro ⟨i, s, a⟩ hH KL hL
  dsimp only at hH
  dsimp only [ups_some, ups_none, ups_nil, ups_nil']
  rcases (show (i : Int) < 1 + m ∨ 1 + m ≤ (i : Int) by omega) with hi | hi
  · have hi2 := hH.i1
    obtain ⟨f, hf, hf4⟩ : ∃ f : Nat, dkX l a 4 = f ∧ f < 8 := by
      have := dkX_bounds (l := l) (a := a) (n := 4) (by omega)
      exact ⟨(dkX l a 4).toNat, by omega, by omega⟩
    obtain ⟨t, ht, ht4⟩ : ∃ t : Nat, dkX l (dkA l a) 4 = t ∧ t < 8 := by
      have := dkX_bounds (l := l) (a := dkA l a) (n := 4) (by omega)
      exact ⟨(dkX l (dkA l a) 4).toNat, by omega, by omega⟩
    have n1 : MCall Try.prog 10 [.ref 0 0, .int .i64 4] (dk l a) (dk l (dkA l a)) (.int .i64 (dkX l a 4)) := next_call l a 4 hl hH.deck (by omega) (by omega) hr
    have n2 : MCall Try.prog 10 [.ref 0 0, .int .i64 4] (dk l (dkA l a)) (dk l (dkA l (dkA l a))) (.int .i64 (dkX l (dkA l a) 4)) := next_call l _ 4 hl (dkA_le hH.deck) (by omega) (by omega) hr
    have cf := certf0_call f t true hf4 ht4
    have w := hu_wlv (by omega) hH f t true
    obtain ⟨k0, hH'⟩ := hu_leave (by omega) hH hi f t (dkA_le (dkA_le hH.deck))
    have lv := leave_call s (ce0 f t true) w
    rw [k0, show leaveS s (ce0 f t true) = leaveP s (ce0 f t true) by simp [leaveS, k0]] at lv
    rw [hf] at n1
    rw [ht] at n2
    generalize leaveP s (ce0 f t true) = P at *
    generalize ce0 f t true = c at *
    generalize dkA l (dkA l a) = a2 at *
    generalize dkA l a = a1 at *
    rw [Ce.c.eq_1, Pg.c.eq_1, Pg.c.eq_1] at lv
    rw [Ce.c.eq_1] at cf
    clear w hH k0 hf ht
    repeat' (first
      | ((first | refine arun_go0 rfl fun K9 h9 => ?_ | refine arunD_goF rfl rfl fun K9 h9 => ?_ | refine arunD_goT rfl rfl fun K9 h9 => ?_ | (refine arun_go ?_ ?_; (focus (simp [hi]; done)); intro K9 h9) | ((first | refine arunD_gF rfl ?_ ?_ | refine arunD_gT rfl ?_ ?_); (focus (simp [hi]; done)); intro K9 h9)); simp (disch := (first | (simp; done) | omega | (simp; omega))) [hi]; (try simp (disch := (first | omega | (simp; omega))) only [wrap_i64, wrap_u8, wrap_u32, wrap_u64, Int.tmod_eq_emod_of_nonneg, Int.tdiv_eq_ediv_of_nonneg]); (first | refine acall_new deck_nil (dk_pures _ _) (by simp) ?_ | refine acall_mutd n1 rfl (dk_pures _ _) (dk_pures _ _) .int (by simp) ?_ | refine acall_mutd n2 rfl (dk_pures _ _) (dk_pures _ _) .int (by simp) ?_ | refine acall_mutd cf rfl (dk_pures _ _) (dk_pures _ _) (by simp) (by simp) ?_ | refine acall_pure (lv) (by simp) ?_ | skip); (repeat (refine And.intro (by first | omega | (simp; first | done | omega) | assumption | (intro e9; have e8 := congrArg List.length e9; first | (simp at e8; done) | ((try simp only [List.length_map, List.length_append] at e8); rw [List.length_nil] at e8; omega))) ?_)); (first | refine h9 _ _ (arun_slots (by first | (dsimp only [sput, sset]; done) | rfl) ?_) | refine h9 _ _ (arunD_slots' (by first | (dsimp only [sput, sset]; done) | rfl) (by first | (dsimp only [List.tail]; done) | rfl) ?_)); clear h9 K9)
      | (refine arun_end ?_)
      | (refine arunD_end ?_)
      | (refine awp_seq fun K hK => ?_)
      | (refine awp_region ?_)
      | (refine hK _ _ ?_; clear hK K)
      | ((first | refine awp_region_draw' (m := 0) (by decide +kernel) [] (by kernel_rfl) (by decide +kernel) ?_); dsimp only [List.replicate, List.append_nil, List.cons_append, List.nil_append, List.length_cons, List.length_nil])
      | (refine awp_block ?_)
      | (refine awp_cond rfl (fun hcnd => ?_) (fun hcnd => ?_) <;> (try simp at hcnd) <;> (try contradiction) <;> (try (exfalso; omega)))
      | (refine awp_skip ?_)
      | (refine awp_exit ?_; simp only [athen_normal, athen_exit, athen_ret, ablock_self, ablock_ne, ablock_normal, ablock_ret, Nat.reduceBEq])
      | (refine awp_ret ?_; refine ret_go ?_)
      | (refine arun_no ?_ ?_; (focus (simp [hi]; done)); refine arun_slots (by first | (dsimp only [sput, sset]; done) | rfl) ?_)
      | ((first | refine arunD_nF rfl ?_ ?_ | refine arunD_nT rfl ?_ ?_); (focus (simp [hi]; done)); refine arunD_slots' (by first | (dsimp only [sput, sset]; done) | rfl) (by first | (dsimp only [List.tail]; done) | rfl) ?_)
      | (refine fall_go ?_)
      | (simp only [athen_normal, athen_exit, athen_ret, ablock_self, ablock_ne, ablock_normal, ablock_ret, Nat.reduceBEq])
      | (clear hK K; refine hK _ _ ?_; clear hK K)
      | (clear hK K; clear hK K; refine hK _ _ ?_; clear hK K)
      | (clear hK K; clear hK K; clear hK K; refine hK _ _ ?_; clear hK K)
      | (clear hK K; clear hK K; clear hK K; clear hK K; refine hK _ _ ?_; clear hK K)
      | (clear hK K; clear hK K; clear hK K; clear hK K; clear hK K; refine hK _ _ ?_; clear hK K))
    refine hL (i + 1, P, a2) _ _ hH' (by dsimp only; omega) ?_
    exact Le.mk [some 0, some 1] (by dsimp only [ups_some, ups_none, ups_nil, ups_nil']; simp) (rowsRen_of (by simp) (by simp [rowsOver, rowRen_live, rens_pures])) (by simp)
  · have hi3 := hH.iN
    have b1 := hH.len
    have b2 := hH.expl
    have b3 := hH.map
    have b4 := hH.any
    have g1 : 0 < s.len := by omega
    have g2 : 1 < s.expl := by omega
    have g3 : 0 < s.map := by omega
    have g4 : 0 < s.any := by omega
    have hni : ¬ (i : Int) < 1 + m := by omega
    have cf : MCall Try.prog 19 [.ref 0 0, .int .i64 0, .int .i64 1, .bool false] (dk [] 0) (dk [] 0) (.agg (ce0 0 1 false).c) := certf0_call 0 1 false (by omega) (by omega)
    have fn := final_call s (ce0 0 1 false) (fun _ => by omega) (by omega)
    rw [show finalS s (ce0 0 1 false) = s.expl - 1 by unfold finalS; rw [if_neg (show ¬ (ce0 0 1 false).info.rexp = 0 by decide), if_pos (by omega)]] at fn
    generalize ce0 0 1 false = c at *
    rw [Ce.c.eq_1, Pg.c.eq_1] at fn
    rw [Ce.c.eq_1] at cf
    clear hH
    repeat' (first
      | ((first | refine arun_go0 rfl fun K9 h9 => ?_ | refine arunD_goF rfl rfl fun K9 h9 => ?_ | refine arunD_goT rfl rfl fun K9 h9 => ?_ | (refine arun_go ?_ ?_; (focus (simp [hni, g1, g2, g3, g4]; done)); intro K9 h9) | ((first | refine arunD_gF rfl ?_ ?_ | refine arunD_gT rfl ?_ ?_); (focus (simp [hni, g1, g2, g3, g4]; done)); intro K9 h9)); simp (disch := (first | (simp; done) | omega | (simp; omega))) [hni, g1, g2, g3, g4]; (try simp (disch := (first | omega | (simp; omega))) only [wrap_i64, wrap_u8, wrap_u32, wrap_u64, Int.tmod_eq_emod_of_nonneg, Int.tdiv_eq_ediv_of_nonneg]); (first | refine acallF_new deck_nil (dk_pures _ _) (by simp) ?_ | refine acallF_mutd cf rfl (dk_pures _ _) (dk_pures _ _) (by simp) (by simp) ?_ | refine ⟨_, fn, ?_⟩ | refine ⟨_, aw, ?_⟩ | refine aeffS_loadA (vs := [nmV s.issuer, .int .i64 s.key.h, .str s.key.id, .str s.key.root, .bool s.lists, .int .i64 s.len, .int .i64 s.expl, .int .i64 s.map, .int .i64 s.any, sbsV s.names]) rfl (by simp) (by simp) (by simp) (by intro i v h; rcases i with _ | _ | _ | _ | _ | _ | _ | _ | _ | _ | i <;> simp at h <;> subst h <;> simp) ?_ | skip); (repeat (refine And.intro (by first | omega | (simp; first | done | omega) | assumption | (intro e9; have e8 := congrArg List.length e9; first | (simp at e8; done) | ((try simp only [List.length_map, List.length_append] at e8); rw [List.length_nil] at e8; omega))) ?_)); (first | refine h9 _ _ (arun_slots (by first | (dsimp only [sput, sset]; done) | rfl) ?_) | refine h9 _ _ (arunD_slots' (by first | (dsimp only [sput, sset]; done) | rfl) (by first | (dsimp only [List.tail]; done) | rfl) ?_)); clear h9 K9)
      | (refine arun_end ?_)
      | (refine arunD_end ?_)
      | (refine awp_seq fun K hK => ?_)
      | (refine awp_region ?_)
      | (refine hK _ _ ?_; clear hK K)
      | ((first | refine awp_region_drawF (m := 0) [(1, 0, nmV s.issuer), (1, 1, .int .i64 s.key.h), (1, 2, .str s.key.id), (1, 3, .str s.key.root), (1, 4, .bool s.lists), (1, 5, .int .i64 s.len), (1, 6, .int .i64 s.expl), (1, 7, .int .i64 s.map), (1, 8, .int .i64 s.any), (1, 9, sbsV s.names)] (by simp) (by decide +kernel) [0,0,0,0,0, 0,0,0,0,0, 0,0,0,0,0, 0,0,0,0,3, 2,2,1,0,0, 0,1] (by kernel_rfl) (by decide +kernel) ?_ | refine awp_region_draw' (m := 0) (by decide +kernel) [0,0,0,0,0, 0,0,0,0,0, 0,0,0,0,0, 0,0,0,0,3, 2,2,1,0,0, 0,1] (by kernel_rfl) (by decide +kernel) ?_ | refine awp_region_draw' (m := 0) (by decide +kernel) [] (by kernel_rfl) (by decide +kernel) ?_); dsimp only [List.replicate, List.append_nil, List.cons_append, List.nil_append, List.length_cons, List.length_nil])
      | (refine awp_block ?_)
      | (refine awp_cond rfl (fun hcnd => ?_) (fun hcnd => ?_) <;> (try simp at hcnd) <;> (try contradiction) <;> (try (exfalso; omega)))
      | (refine awp_skip ?_)
      | (refine awp_exit ?_; simp only [athen_normal, athen_exit, athen_ret, ablock_self, ablock_ne, ablock_normal, ablock_ret, Nat.reduceBEq])
      | (refine awp_ret ?_; refine ret_go ?_)
      | (refine arun_no ?_ ?_; (focus (simp [hni, g1, g2, g3, g4]; done)); refine arun_slots (by first | (dsimp only [sput, sset]; done) | rfl) ?_)
      | ((first | refine arunD_nF rfl ?_ ?_ | refine arunD_nT rfl ?_ ?_); (focus (simp [hni, g1, g2, g3, g4]; done)); refine arunD_slots' (by first | (dsimp only [sput, sset]; done) | rfl) (by first | (dsimp only [List.tail]; done) | rfl) ?_)
      | (refine fall_go ?_)
      | (simp only [athen_normal, athen_exit, athen_ret, ablock_self, ablock_ne, ablock_normal, ablock_ret, Nat.reduceBEq])
      | (clear hK K; refine hK _ _ ?_; clear hK K)
      | (clear hK K; clear hK K; refine hK _ _ ?_; clear hK K)
      | (clear hK K; clear hK K; clear hK K; refine hK _ _ ?_; clear hK K)
      | (clear hK K; clear hK K; clear hK K; clear hK K; refine hK _ _ ?_; clear hK K)
      | (clear hK K; clear hK K; clear hK K; clear hK K; clear hK K; refine hK _ _ ?_; clear hK K))
    simp
    exact .pure .bool
  exact .bool
theorem stepUnlimited_fits : ∀ xs, FitsAll Try.prog 8 Try.f6.params.toList xs → PCall Try.prog 6 xs (.bool true) := by
  intro xs h
  rw [show Try.f6.params.toList = [22, 3] by kernel_rfl] at h
  obtain ⟨x1, xs, rfl, h1, h⟩ := fitsAll_cons h
  obtain ⟨x2, xs, rfl, h2, h⟩ := fitsAll_cons h
  obtain rfl := fitsAll_nil h
  obtain ⟨l, hl, hr, rfl⟩ := fits_ints (e := 3) (by kernel_rfl) (by kernel_rfl) h1
  obtain ⟨n, hn, rfl⟩ := fits_int (by kernel_rfl) h2
  exact unlimited_call l n hl hr hn
end Go.Proofs.Ytjlifjmjnhdcmaa
