/-
  CONTRACTS: SignerNever.
  Conditions: none.
-/
import Derived.Test.YthcdofbmmibgjaaS5
import Derived.Test.YthcdofbmmibgjaaGd
import Derived.Test.YthcdofbmmibgjaaGf
namespace Go.Proofs.Ythcdofbmmibgjaa
open Go.VS
set_option linter.all false
attribute [local irreducible] arun arunD AWp aend shaS shaT leafN verE

theorem leafV_sgn' (seed : List UInt8) (h leaf : Nat) (m : List UInt8) (hh : h ≤ 8) (hf : leaf < 2 ^ h) : leafV (sgnS seed h leaf m) = .tup [.int .i64 leaf, .bool true] := by
  have h256 := pow_le_256 hh
  have hl := sgnS_length seed h leaf m hf
  rw [leafV, if_neg (by omega), sgnS, List.append_assoc, leafN_wbytes _ _ (by omega) (by omega)]
theorem saveS_length (seed : List UInt8) (h n : Int) (hs : seed.length = 32) : (saveS seed h n).length = 41 := by simp [saveS, hs]
theorem saveS_drop (seed : List UInt8) (h n : Int) (hs : seed.length = 32) : (saveS seed h n).drop 37 = wbytes n := by
  simp [saveS, List.drop_append, hs, b1S]
theorem saveS_seed (seed : List UInt8) (h n : Int) (hs : seed.length = 32) : ((saveS seed h n).drop 4).take 32 = seed := by
  simp [saveS, List.take_append_of_le_length, hs, List.take_of_length_le]
theorem saveS_height (seed : List UInt8) (h n : Nat) (hs : seed.length = 32) (hh : h ≤ 8) (hi : 36 < (saveS seed h n).length) : ((saveS seed h n)[36]).toNat = h := by
  have : (saveS seed h n)[36]? = some (UInt8.ofNat h) := by
    rw [saveS, List.append_assoc, List.getElem?_append_right (by simp [hs])]
    simp [hs, b1S, show ((h : Int) % 256).toNat = h by omega]
    rfl
  rw [List.getElem?_eq_getElem hi] at this
  rw [Option.some.inj this, toNat_ofNat (by omega)]
theorem sload_save (seed : List UInt8) (h n : Nat) (hs : seed.length = 32) (hh : h ≤ 8) (hn : n ≤ 2 ^ h) : GCall Try.prog 20 [.str (saveS seed h n)] [] [trR seed h false, sgR seed h n 0] (.tup [.ref 1 0, .int .i64 0]) := by
  have h256 := pow_le_256 hh
  have hl := saveS_length seed h n hs
  refine sload_call (saveS seed h n) hl (by simp [saveS]) seed h n (saveS_seed seed h n hs) (saveS_height seed h n hs hh (by omega)) ?_ hh hn
  have h1 := acc_leafN ((saveS seed h n).drop 37)
  rw [saveS_drop seed h n hs] at h1 ⊢
  have h2 := leafN_wbytes (n : Int) [] (by omega) (by omega)
  rw [List.append_nil] at h2
  omega

/-- The leaves that are used: the first i. -/
def ub (p i : Nat) : List V := (List.range p).map fun j => .bool (decide (j < i))
@[simp] theorem ub_length (p i : Nat) : (ub p i).length = p := by simp [ub]
@[simp] theorem ub_pures (p i : Nat) : Pures (ub p i) := by
  intro x hx; obtain ⟨j, -, rfl⟩ := List.mem_map.1 hx; exact .bool
theorem ub_get (p i : Nat) (h : i < p) : (ub p i)[i]'(by simpa using h) = .bool false := by simp [ub]
theorem ub_set (p i : Nat) (h : i < p) : (ub p i).set i (.bool true) = ub p (i + 1) := by
  apply List.ext_getElem?
  intro j
  rw [List.getElem?_set]
  split
  · rename_i e; subst e; simp [ub, h]
  · rename_i e
    simp only [ub, List.getElem?_map]
    cases hj : (List.range p)[j]? with
    | none => simp
    | some x =>
      have : x = j := by have := List.getElem?_eq_some_iff.1 hj; obtain ⟨q1, q2⟩ := this; simp at q2; exact q2.symm
      subst this
      simp; omega
theorem ub_zero (p : Nat) : List.replicate p (V.bool false) = ub p 0 := by
  apply List.ext_getElem
  · simp
  · intro j h1 h2; simp [ub]

set_option maxRecDepth 100000 in
set_option maxHeartbeats 8000000 in
theorem signerNever_call (k height : UInt8) (l : List Int) (hl : l.length ≤ 140737488355328) (hr : ∀ k ∈ l, -9223372036854775808 ≤ k ∧ k ≤ 9223372036854775807) :
    PCall Try.prog 11 [byteV k, byteV height, .sl l.length (l.map (V.int .i64))] (.bool true) := by
  refine pcall_body Try.func11 rfl Try.call11 ?_ ?_
  rotate_left 1
  refine awp_slots (s' := ((byteV k : V) :: (byteV height : V) :: (.sl l.length (l.map (V.int .i64)) : V) :: V.junk :: V.junk :: V.junk :: V.junk :: V.junk :: V.junk :: V.junk :: V.junk :: V.junk :: V.junk :: V.junk :: V.junk :: V.junk :: V.junk :: V.junk :: V.junk :: V.junk :: V.junk :: V.junk :: V.junk :: V.junk :: V.junk :: V.junk :: V.junk :: V.junk :: V.junk :: V.junk :: V.junk :: V.junk :: V.junk :: V.junk :: V.junk :: V.junk :: V.junk :: V.junk :: V.junk :: V.junk :: V.junk :: V.junk :: V.junk :: V.junk :: V.junk :: V.junk :: V.junk :: V.junk :: V.junk :: V.junk :: V.junk :: V.junk :: V.junk :: V.junk :: V.junk :: V.junk :: V.junk :: V.junk :: V.junk :: V.junk :: V.junk :: V.junk :: V.junk :: V.junk :: V.junk :: V.junk :: V.junk :: V.junk :: V.junk :: V.junk :: V.junk :: V.junk :: V.junk :: V.junk :: V.junk :: V.junk :: V.junk :: V.junk :: V.junk :: V.junk :: V.junk :: V.junk :: V.junk :: V.junk :: V.junk :: V.junk :: V.junk :: V.junk :: V.junk :: V.junk :: V.junk :: V.junk :: V.junk :: V.junk :: V.junk :: V.junk :: V.junk :: V.junk :: V.junk :: V.junk :: V.junk :: V.junk :: V.junk :: V.junk :: V.junk :: V.junk :: V.junk :: V.junk :: V.junk :: V.junk :: V.junk :: V.junk :: V.junk :: V.junk :: [])) rfl ?_
  have hc : k.toNat < 256 := UInt8.toNat_lt _
  have hc2 : height.toNat < 256 := UInt8.toNat_lt _
  obtain ⟨h, hhe⟩ : ∃ h : Nat, height.toNat % 3 = h := ⟨_, rfl⟩
  have hh : (height.toNat : Int) % 3 = (h : Int) := by omega
  have hh8 : h ≤ 8 := by omega
  have hsl := shl_one h hh8
  have h256 := pow_le_256 hh8
  have hms := mseed_call (k.toNat : Int)
  have hs : (mseedS k.toNat).length = 32 := mseedS_length _
  generalize mseedS (k.toNat : Int) = sd at *
  have hnw := new_call sd h hs hh8
  obtain ⟨p, hp⟩ : ∃ p, 2 ^ h = p := ⟨_, rfl⟩
  rw [hp] at hsl h256
  repeat' (first
    | ((first | refine arun_go0 rfl fun K9 h9 => ?_ | (refine arun_go ?_ ?_; (focus (simp [hh, hsl, ub_zero]; done)); intro K9 h9)); simp (disch := (first | (simp; done) | omega | (simp; omega))) [hh, hsl, ub_zero]; (try simp (disch := (first | omega | (simp; omega))) only [wrap_i64, wrap_u8, wrap_u32, wrap_u64, Int.tmod_eq_emod_of_nonneg, Int.tdiv_eq_ediv_of_nonneg]); (first | refine acall_pure (hms) (by simp) ?_ | refine acall_news hnw (trR_pures _ _ _) .int (by simp) ?_ | refine acall_new (deck_call l) (by simp) (by simp) ?_ | skip); (repeat (refine And.intro (by first | omega | (simp; first | done | omega) | assumption | (intro e9; have e8 := congrArg List.length e9; first | (simp at e8; done) | ((try simp only [List.length_map, List.length_append] at e8); rw [List.length_nil] at e8; omega))) ?_)); (first | refine h9 _ _ (arun_slots (by first | (dsimp only [sput, sset]; done) | rfl) ?_)); clear h9 K9)
    | (refine arun_end ?_)
    | (refine awp_seq fun K hK => ?_)
    | (refine awp_region ?_)
    | (refine hK _ _ ?_; clear hK K)
    | (refine awp_block ?_)
    | (refine awp_cond rfl (fun hcnd => ?_) (fun hcnd => ?_) <;> (try simp at hcnd) <;> (try contradiction) <;> (try (exfalso; omega)))
    | (refine awp_skip ?_)
    | (refine awp_exit ?_; simp only [athen_normal, athen_exit, athen_ret, ablock_self, ablock_ne, ablock_normal, ablock_ret, Nat.reduceBEq])
    | (refine awp_ret ?_; refine ret_go ?_)
    | (refine arun_no ?_ ?_; (focus (simp [hh, hsl, ub_zero]; done)); refine arun_slots (by first | (dsimp only [sput, sset]; done) | rfl) ?_)
    | (refine fall_go ?_)
    | (simp only [athen_normal, athen_exit, athen_ret, ablock_self, ablock_ne, ablock_normal, ablock_ret, Nat.reduceBEq])
    | (clear hK K; refine hK _ _ ?_; clear hK K)
    | (clear hK K; clear hK K; refine hK _ _ ?_; clear hK K)
    | (clear hK K; clear hK K; clear hK K; refine hK _ _ ?_; clear hK K)
    | (clear hK K; clear hK K; clear hK K; clear hK K; refine hK _ _ ?_; clear hK K)
    | (clear hK K; clear hK K; clear hK K; clear hK K; clear hK K; refine hK _ _ ?_; clear hK K))
  refine awp_loopU (α := Nat × Nat × Bool) (fun x => (some V.junk :: some V.junk :: some V.junk :: none :: none :: none :: some V.junk :: some V.junk :: some (V.ref 1 0) :: some V.junk :: some (V.ref 2 0) :: some (V.osl 3 0 p 1) :: some (V.int .i64 x.1) :: some V.junk :: some V.junk :: some V.junk :: some V.junk :: some V.junk :: some V.junk :: some V.junk :: some V.junk :: some V.junk :: some V.junk :: some V.junk :: some V.junk :: some V.junk :: some V.junk :: some V.junk :: some V.junk :: some V.junk :: some V.junk :: some V.junk :: some V.junk :: some V.junk :: some V.junk :: some V.junk :: some V.junk :: some V.junk :: some V.junk :: some V.junk :: some V.junk :: some V.junk :: some V.junk :: some V.junk :: some V.junk :: some V.junk :: some V.junk :: some V.junk :: some V.junk :: some V.junk :: some V.junk :: some V.junk :: some V.junk :: some V.junk :: some V.junk :: some V.junk :: some V.junk :: some V.junk :: some V.junk :: some V.junk :: some V.junk :: some V.junk :: some V.junk :: some V.junk :: some V.junk :: some V.junk :: some V.junk :: some V.junk :: some V.junk :: some V.junk :: some V.junk :: some V.junk :: some V.junk :: some V.junk :: some V.junk :: some V.junk :: some V.junk :: some V.junk :: some V.junk :: some V.junk :: some V.junk :: some V.junk :: some V.junk :: some V.junk :: some V.junk :: some V.junk :: some V.junk :: some V.junk :: some V.junk :: some V.junk :: some V.junk :: some V.junk :: some V.junk :: some V.junk :: some V.junk :: some V.junk :: some V.junk :: some V.junk :: some V.junk :: some V.junk :: some V.junk :: some V.junk :: some V.junk :: some V.junk :: some V.junk :: some V.junk :: some V.junk :: some V.junk :: some V.junk :: some V.junk :: some V.junk :: some V.junk :: some V.junk :: some V.junk :: [])) (fun x => [.live (trR sd h x.2.2), .live (sgR sd h x.1 0), .live (dk l x.2.1), .live (ub p x.1)]) (fun x => x.1 ≤ p ∧ x.1 ≤ 6 ∧ x.2.1 ≤ l.length) (fun x => 7 - x.1) (0, 0, false) ⟨Nat.zero_le _, Nat.zero_le _, Nat.zero_le _⟩ ?_ ?_
  · dsimp only [ups_some, ups_none, ups_nil, ups_nil']
    exact Le.mk [some 0, some 1, some 2, some 3] (by simp) (rowsRen_of (by simp) (by simp [rowsOver, rowRen_live, rens_pures, sgR, ub_zero])) (by simp)
  rintro ⟨i, a, g⟩ ⟨hi, hi6, ha⟩ KL hL
  dsimp only at hi hi6 ha
  dsimp only [ups_some, ups_none, ups_nil, ups_nil']
  rcases Nat.lt_or_ge i 6 with h6 | h6
  · have hfk := fork_call sd h i g hs
    rcases Nat.lt_or_ge i p with hip | hip
    · have hsk := sskip_call sd h i g 1 1 hs hh8 (by omega) (by omega) (by rw [if_neg (by omega)]; rfl)
      have hsv := ssave_call sd h (i + 1) g hs
      have hsg := ssign_call sd h i g [109] hs hh8 (by omega) (by simp)
      have hlf := leaf_call (sgnS sd h i [109]) (by rw [sgnS_length _ _ _ _ (by omega)]; omega)
      rw [leafV_sgn' sd h i [109] hh8 (by omega)] at hlf
      have hld := sload_save sd h (i + 1) hs hh8 (by omega)
      have hnx := next_call l a 2 hl ha (by omega) (by omega) hr
      have hnb := dkX_bounds (l := l) (a := a) (n := 2) (by omega)
      have ha2 : dkA l a ≤ l.length := dkA_le ha
      have hug := ub_get p i hip
      have hus := ub_set p i hip
      generalize sgnS sd h i [109] = sg at *
      generalize saveS sd h ((i + 1 : Nat) : Int) = sv at *
      generalize dkA l a = a2 at *
      generalize dkX l a 2 = c at *
      clear hp
      have hpi : ¬ p ≤ i := by omega
      have hug2 : (ub p i)[i]? = some (.bool false) := by rw [List.getElem?_eq_getElem (by simpa using hip), hug]
      have hune : ub p i ≠ [] := List.ne_nil_of_length_pos (by simp; omega)
      repeat' (first
    | ((first | refine arun_go0 rfl fun K9 h9 => ?_ | (refine arun_go ?_ ?_; (focus (simp [hug, hug2, hune, hus, hpi]; done)); intro K9 h9)); simp (disch := (first | (simp; done) | omega | (simp; omega))) [hug, hug2, hune, hus, hpi]; (try simp (disch := (first | omega | (simp; omega))) only [wrap_i64, wrap_u8, wrap_u32, wrap_u64, Int.tmod_eq_emod_of_nonneg, Int.tdiv_eq_ediv_of_nonneg]); (first | refine acall_fork 0 1 hfk (by omega) rfl rfl (trR_pures _ _ _) ?_ | refine acall_sg 0 4 hsk (by omega) rfl rfl (trR_pures _ _ _) (trR_pures _ _ _) (by simp) (by simp) ?_ | refine acall_sg 0 1 hsg (by omega) rfl rfl (trR_pures _ _ _) (trR_pures _ _ _) (by simp) (by simp) ?_ | refine acall_view hsv ⟨view_sg rfl rfl, trivial⟩ .str ?_ | refine acall_pure (hlf) (by simp) ?_ | refine acall_mut 2 hnx rfl (by simp) (by simp) .int (by simp) ?_ | refine acall_news hld (trR_pures _ _ _) .int (by simp) ?_ | skip); (repeat (refine And.intro (by first | omega | (simp; first | done | omega) | assumption | (intro e9; have e8 := congrArg List.length e9; first | (simp at e8; done) | ((try simp only [List.length_map, List.length_append] at e8); rw [List.length_nil] at e8; omega))) ?_)); (first | refine h9 _ _ (arun_slots (by first | (dsimp only [sput, sset]; done) | rfl) ?_)); clear h9 K9)
    | (refine arun_end ?_)
    | (refine awp_seq fun K hK => ?_)
    | (refine awp_region ?_)
    | (refine hK _ _ ?_; clear hK K)
    | (refine awp_block ?_)
    | (refine awp_cond rfl (fun hcnd => ?_) (fun hcnd => ?_) <;> (try simp at hcnd) <;> (try contradiction) <;> (try (exfalso; omega)))
    | (refine awp_skip ?_)
    | (refine awp_exit ?_; simp only [athen_normal, athen_exit, athen_ret, ablock_self, ablock_ne, ablock_normal, ablock_ret, Nat.reduceBEq])
    | (refine awp_ret ?_; refine ret_go ?_)
    | (refine arun_no ?_ ?_; (focus (simp [hug, hug2, hune, hus, hpi]; done)); refine arun_slots (by first | (dsimp only [sput, sset]; done) | rfl) ?_)
    | (refine fall_go ?_)
    | (simp only [athen_normal, athen_exit, athen_ret, ablock_self, ablock_ne, ablock_normal, ablock_ret, Nat.reduceBEq])
    | (clear hK K; refine hK _ _ ?_; clear hK K)
    | (clear hK K; clear hK K; refine hK _ _ ?_; clear hK K)
    | (clear hK K; clear hK K; clear hK K; refine hK _ _ ?_; clear hK K)
    | (clear hK K; clear hK K; clear hK K; clear hK K; refine hK _ _ ?_; clear hK K)
    | (clear hK K; clear hK K; clear hK K; clear hK K; clear hK K; refine hK _ _ ?_; clear hK K))
      · refine hL (i + 1, a2, false) _ _ ⟨by dsimp only; omega, by dsimp only; omega, ha2⟩ (by dsimp only; omega) ?_
        exact Le.mk [some 5, some 6, some 2, some 3] (by dsimp only [ups_some, ups_none, ups_nil, ups_nil']; simp) (rowsRen_of (by simp) (by simp [rowsOver, rowRen_live, rens_pures, sgR])) (by simp)
      · refine hL (i + 1, a2, true) _ _ ⟨by dsimp only; omega, by dsimp only; omega, ha2⟩ (by dsimp only; omega) ?_
        exact Le.mk [some 0, some 1, some 2, some 3] (by dsimp only [ups_some, ups_none, ups_nil, ups_nil']; simp) (rowsRen_of (by simp) (by simp [rowsOver, rowRen_live, rens_pures, sgR])) (by simp)
    · obtain rfl : i = p := by omega
      have hsk := sskip_call sd h i g 1 0 hs hh8 (by omega) (by omega) (by rw [hp, Nat.sub_self, if_pos (by omega)])
      have hsv := ssave_call sd h (i + 0) g hs
      have hsg := ssign_done sd h g [109] hs hh8
      have hlf := sleft_call sd h i g hs hh8 (by omega)
      rw [hp] at hsg hlf
      rw [Nat.sub_self] at hlf
      generalize saveS sd h ((i + 0 : Nat) : Int) = sv at *
      clear hp
      repeat' (first
    | ((first | refine arun_go0 rfl fun K9 h9 => ?_ | (refine arun_go ?_ ?_; (focus (simp ; done)); intro K9 h9)); simp (disch := (first | (simp; done) | omega | (simp; omega))) ; (try simp (disch := (first | omega | (simp; omega))) only [wrap_i64, wrap_u8, wrap_u32, wrap_u64, Int.tmod_eq_emod_of_nonneg, Int.tdiv_eq_ediv_of_nonneg]); (first | refine acall_pure (awake13_call) (by simp) ?_ | refine acall_fork 0 1 hfk (by omega) rfl rfl (trR_pures _ _ _) ?_ | refine acall_sg 0 4 hsk (by omega) rfl rfl (trR_pures _ _ _) (trR_pures _ _ _) (by simp) (by simp) ?_ | refine acall_view hsg ⟨view_sg rfl rfl, .pure .str, trivial⟩ (by simp) ?_ | refine acall_view hsv ⟨view_sg rfl rfl, trivial⟩ .str ?_ | refine acall_view hlf ⟨view_sg rfl rfl, trivial⟩ .int ?_ | skip); (repeat (refine And.intro (by first | omega | (simp; first | done | omega) | assumption | (intro e9; have e8 := congrArg List.length e9; first | (simp at e8; done) | ((try simp only [List.length_map, List.length_append] at e8); rw [List.length_nil] at e8; omega))) ?_)); (first | refine h9 _ _ (arun_slots (by first | (dsimp only [sput, sset]; done) | rfl) ?_)); clear h9 K9)
    | (refine arun_end ?_)
    | (refine awp_seq fun K hK => ?_)
    | (refine awp_region ?_)
    | (refine hK _ _ ?_; clear hK K)
    | (refine awp_block ?_)
    | (refine awp_cond rfl (fun hcnd => ?_) (fun hcnd => ?_) <;> (try simp at hcnd) <;> (try contradiction) <;> (try (exfalso; omega)))
    | (refine awp_skip ?_)
    | (refine awp_exit ?_; simp only [athen_normal, athen_exit, athen_ret, ablock_self, ablock_ne, ablock_normal, ablock_ret, Nat.reduceBEq])
    | (refine awp_ret ?_; refine ret_go ?_)
    | (refine arun_no ?_ ?_; (focus (simp ; done)); refine arun_slots (by first | (dsimp only [sput, sset]; done) | rfl) ?_)
    | (refine fall_go ?_)
    | (simp only [athen_normal, athen_exit, athen_ret, ablock_self, ablock_ne, ablock_normal, ablock_ret, Nat.reduceBEq])
    | (clear hK K; refine hK _ _ ?_; clear hK K)
    | (clear hK K; clear hK K; refine hK _ _ ?_; clear hK K)
    | (clear hK K; clear hK K; clear hK K; refine hK _ _ ?_; clear hK K)
    | (clear hK K; clear hK K; clear hK K; clear hK K; refine hK _ _ ?_; clear hK K)
    | (clear hK K; clear hK K; clear hK K; clear hK K; clear hK K; refine hK _ _ ?_; clear hK K))
      simp
      exact .pure .bool
  · obtain rfl : i = 6 := by omega
    repeat' (first
    | ((first | refine arun_go0 rfl fun K9 h9 => ?_ | (refine arun_go ?_ ?_; (focus (simp ; done)); intro K9 h9)); simp (disch := (first | (simp; done) | omega | (simp; omega))) ; (try simp (disch := (first | omega | (simp; omega))) only [wrap_i64, wrap_u8, wrap_u32, wrap_u64, Int.tmod_eq_emod_of_nonneg, Int.tdiv_eq_ediv_of_nonneg]); (first | refine acall_pure (awake13_call) (by simp) ?_ | skip); (repeat (refine And.intro (by first | omega | (simp; first | done | omega) | assumption | (intro e9; have e8 := congrArg List.length e9; first | (simp at e8; done) | ((try simp only [List.length_map, List.length_append] at e8); rw [List.length_nil] at e8; omega))) ?_)); (first | refine h9 _ _ (arun_slots (by first | (dsimp only [sput, sset]; done) | rfl) ?_)); clear h9 K9)
    | (refine arun_end ?_)
    | (refine awp_seq fun K hK => ?_)
    | (refine awp_region ?_)
    | (refine hK _ _ ?_; clear hK K)
    | (refine awp_block ?_)
    | (refine awp_cond rfl (fun hcnd => ?_) (fun hcnd => ?_) <;> (try simp at hcnd) <;> (try contradiction) <;> (try (exfalso; omega)))
    | (refine awp_skip ?_)
    | (refine awp_exit ?_; simp only [athen_normal, athen_exit, athen_ret, ablock_self, ablock_ne, ablock_normal, ablock_ret, Nat.reduceBEq])
    | (refine awp_ret ?_; refine ret_go ?_)
    | (refine arun_no ?_ ?_; (focus (simp ; done)); refine arun_slots (by first | (dsimp only [sput, sset]; done) | rfl) ?_)
    | (refine fall_go ?_)
    | (simp only [athen_normal, athen_exit, athen_ret, ablock_self, ablock_ne, ablock_normal, ablock_ret, Nat.reduceBEq])
    | (clear hK K; refine hK _ _ ?_; clear hK K)
    | (clear hK K; clear hK K; refine hK _ _ ?_; clear hK K)
    | (clear hK K; clear hK K; clear hK K; refine hK _ _ ?_; clear hK K)
    | (clear hK K; clear hK K; clear hK K; clear hK K; refine hK _ _ ?_; clear hK K)
    | (clear hK K; clear hK K; clear hK K; clear hK K; clear hK K; refine hK _ _ ?_; clear hK K))
    simp
    exact .pure .bool
  · exact .bool
set_option maxRecDepth 100000 in
theorem signerNever_fits : ∀ xs, FitsAll Try.prog 8 Try.f11.params.toList xs → PCall Try.prog 11 xs (.bool true) := by
  intro xs h
  rw [show Try.f11.params.toList = [5, 5, 22] by kernel_rfl] at h
  obtain ⟨x1, xs, rfl, h1, h⟩ := fitsAll_cons h
  obtain ⟨x2, xs, rfl, h2, h⟩ := fitsAll_cons h
  obtain ⟨x3, xs, rfl, h3, h⟩ := fitsAll_cons h
  obtain rfl := fitsAll_nil h
  obtain ⟨k, rfl⟩ := fits_u8 (by kernel_rfl) h1
  obtain ⟨n, rfl⟩ := fits_u8 (by kernel_rfl) h2
  obtain ⟨l, hl, hr, rfl⟩ := fits_ints (e := 3) (by kernel_rfl) (by kernel_rfl) h3
  exact signerNever_call k n l hl hr
end Go.Proofs.Ythcdofbmmibgjaa
