/-
  STEP: names from a deck.
  Conditions: none.
-/
import Derived.Test.YtjlifjmjnhdcmaaQ16
namespace Go.Proofs.Ytjlifjmjnhdcmaa
open Go.VS Go.Stp
set_option linter.all false
set_option maxRecDepth 100000
set_option maxHeartbeats 8000000
attribute [local irreducible] arun arunD arunU AWp aend

theorem name_call (l : List Int) (a : Nat) (hl : l.length ≤ 140737488355328) (ha : a ≤ l.length) (hr : ∀ k ∈ l, -9223372036854775808 ≤ k ∧ k ≤ 9223372036854775807) :
    MCall Try.prog 64 [.ref 0 0] (dk l a) (dk l (nameS l a).2) (.agg [nmV (nameS l a).1]) := by
  have n1 : MCall Try.prog 10 [.ref 0 0, .int .i64 4] (dk l a) (dk l (dkA l a)) (.int .i64 (dkX l a 4)) := next_call l a 4 hl ha (by omega) (by omega) hr
  have b1 := dkX_bounds (l := l) (a := a) (n := 4) (by omega)
  have ha1 := dkA_le ha
  unfold nameS
  obtain ⟨k, hk⟩ : ∃ k, (dkX l a 4).toNat = k := ⟨_, rfl⟩
  have hk2 : dkX l a 4 = k := by omega
  rw [hk]
  rw [hk2] at n1
  have hk4 : k < 4 := by omega
  clear hk hk2 b1
  generalize dkA l a = a1 at *
  refine mcall_body Try.func64 rfl Try.call64 ?_ ?_ ?_
  rotate_left 2
  refine awp_slots (s' := [(.ref 0 0 : V), .junk, .junk, .junk, .junk, .junk, .junk, .junk, .junk, .junk, .junk, .junk, .junk, .junk, .junk, .junk, .junk, .junk, .junk, .junk, .junk, .junk, .junk, .junk, .junk, .junk, .junk, .junk, .junk, .junk, .junk, .junk, .junk, .junk, .junk, .junk, .junk, .junk, .junk, .junk, .junk, .junk, .junk, .junk, .junk, .junk, .junk, .junk]) rfl ?_
  · iterate 12 (first
      | ((first | refine arun_go0 rfl fun K9 h9 => ?_ | refine arunD_goF rfl rfl fun K9 h9 => ?_ | refine arunD_goT rfl rfl fun K9 h9 => ?_ | (refine arun_go ?_ ?_; (focus (simp ; done)); intro K9 h9) | ((first | refine arunD_gF rfl ?_ ?_ | refine arunD_gT rfl ?_ ?_); (focus (simp ; done)); intro K9 h9)); simp (disch := (first | (simp; done) | omega | (simp; omega))) ; (try simp (disch := (first | omega | (simp; omega))) only [wrap_i64, wrap_u8, wrap_u32, wrap_u64, Int.tmod_eq_emod_of_nonneg, Int.tdiv_eq_ediv_of_nonneg]); (first | refine acall_mutd n1 rfl (dk_pures _ _) (dk_pures _ _) .int (by simp) ?_ | skip); (repeat (refine And.intro (by first | omega | (simp; first | done | omega) | assumption | (intro e9; have e8 := congrArg List.length e9; first | (simp at e8; done) | ((try simp only [List.length_map, List.length_append] at e8); rw [List.length_nil] at e8; omega))) ?_)); (first | refine h9 _ _ (arun_slots (by first | (dsimp only [sput, sset]; done) | rfl) ?_) | refine h9 _ _ (arunD_slots' (by first | (dsimp only [sput, sset]; done) | rfl) (by first | (dsimp only [List.tail]; done) | rfl) ?_)); clear h9 K9)
      | (refine arun_end ?_)
      | (refine arunD_end ?_)
      | (refine awp_seq fun K hK => ?_)
      | (refine awp_region ?_)
      | (refine hK _ _ ?_; clear hK K)
      | ((first | refine awp_region_draw' (m := 0) (by decide +kernel) [] (by kernel_rfl) (by decide +kernel) ?_); dsimp only [List.replicate, List.append_nil, List.cons_append, List.nil_append, List.length_cons, List.length_nil])
      | (refine awp_block ?_)
      | (refine awp_cond rfl (fun hcnd => ?_) (fun hcnd => ?_) <;> (try simp at hcnd) <;> (try contradiction) <;> (try (exfalso; omega)))
      | (refine awp_skip ?_)
      | (refine awp_exit ?_; simp only [athen_normal, athen_exit, athen_ret, ablock_self, ablock_ne, ablock_normal, ablock_ret, Nat.reduceBEq])
      | (refine awp_ret ?_; refine ret_go ?_)
      | (refine arun_no ?_ ?_; (focus (simp ; done)); refine arun_slots (by first | (dsimp only [sput, sset]; done) | rfl) ?_)
      | ((first | refine arunD_nF rfl ?_ ?_ | refine arunD_nT rfl ?_ ?_); (focus (simp ; done)); refine arunD_slots' (by first | (dsimp only [sput, sset]; done) | rfl) (by first | (dsimp only [List.tail]; done) | rfl) ?_)
      | (refine fall_go ?_)
      | (simp only [athen_normal, athen_exit, athen_ret, ablock_self, ablock_ne, ablock_normal, ablock_ret, Nat.reduceBEq])
      | (clear hK K; refine hK _ _ ?_; clear hK K)
      | (clear hK K; clear hK K; refine hK _ _ ?_; clear hK K)
      | (clear hK K; clear hK K; clear hK K; refine hK _ _ ?_; clear hK K)
      | (clear hK K; clear hK K; clear hK K; clear hK K; refine hK _ _ ?_; clear hK K)
      | (clear hK K; clear hK K; clear hK K; clear hK K; clear hK K; refine hK _ _ ?_; clear hK K))
    refine awp_seq fun K1 hK1 => ?_
    repeat' (first
      | ((first | refine arun_go0 rfl fun K9 h9 => ?_ | refine arunD_goF rfl rfl fun K9 h9 => ?_ | refine arunD_goT rfl rfl fun K9 h9 => ?_ | (refine arun_go ?_ ?_; (focus (simp ; done)); intro K9 h9) | ((first | refine arunD_gF rfl ?_ ?_ | refine arunD_gT rfl ?_ ?_); (focus (simp ; done)); intro K9 h9)); simp (disch := (first | (simp; done) | omega | (simp; omega))) ; (try simp (disch := (first | omega | (simp; omega))) only [wrap_i64, wrap_u8, wrap_u32, wrap_u64, Int.tmod_eq_emod_of_nonneg, Int.tdiv_eq_ediv_of_nonneg]); (first | refine acall_mutd n1 rfl (dk_pures _ _) (dk_pures _ _) .int (by simp) ?_ | skip); (repeat (refine And.intro (by first | omega | (simp; first | done | omega) | assumption | (intro e9; have e8 := congrArg List.length e9; first | (simp at e8; done) | ((try simp only [List.length_map, List.length_append] at e8); rw [List.length_nil] at e8; omega))) ?_)); (first | refine h9 _ _ (arun_slots (by first | (dsimp only [sput, sset]; done) | rfl) ?_) | refine h9 _ _ (arunD_slots' (by first | (dsimp only [sput, sset]; done) | rfl) (by first | (dsimp only [List.tail]; done) | rfl) ?_)); clear h9 K9)
      | (refine arun_end ?_)
      | (refine arunD_end ?_)
      | (refine awp_seq fun K hK => ?_)
      | (refine awp_region ?_)
      | (refine hK _ _ ?_; clear hK K)
      | ((first | refine awp_region_draw' (m := 0) (by decide +kernel) [] (by kernel_rfl) (by decide +kernel) ?_); dsimp only [List.replicate, List.append_nil, List.cons_append, List.nil_append, List.length_cons, List.length_nil])
      | (refine awp_block ?_)
      | (refine awp_cond rfl (fun hcnd => ?_) (fun hcnd => ?_) <;> (try simp at hcnd) <;> (try contradiction) <;> (try (exfalso; omega)))
      | (refine awp_skip ?_)
      | (refine awp_exit ?_; simp only [athen_normal, athen_exit, athen_ret, ablock_self, ablock_ne, ablock_normal, ablock_ret, Nat.reduceBEq])
      | (refine awp_ret ?_; refine ret_go ?_)
      | (refine arun_no ?_ ?_; (focus (simp ; done)); refine arun_slots (by first | (dsimp only [sput, sset]; done) | rfl) ?_)
      | ((first | refine arunD_nF rfl ?_ ?_ | refine arunD_nT rfl ?_ ?_); (focus (simp ; done)); refine arunD_slots' (by first | (dsimp only [sput, sset]; done) | rfl) (by first | (dsimp only [List.tail]; done) | rfl) ?_)
      | (refine fall_go ?_)
      | (simp only [athen_normal, athen_exit, athen_ret, ablock_self, ablock_ne, ablock_normal, ablock_ret, Nat.reduceBEq])
      | (clear hK K; refine hK _ _ ?_; clear hK K)
      | (clear hK K; clear hK K; refine hK _ _ ?_; clear hK K)
      | (clear hK K; clear hK K; clear hK K; refine hK _ _ ?_; clear hK K)
      | (clear hK K; clear hK K; clear hK K; clear hK K; refine hK _ _ ?_; clear hK K)
      | (clear hK K; clear hK K; clear hK K; clear hK K; clear hK K; refine hK _ _ ?_; clear hK K))
    refine awp_countU (fun i => [none, none, none, none, some (V.int .i64 ((k : Int) - i)), some V.junk, some V.junk, some V.junk, some V.junk, some V.junk, some V.junk, some V.junk, some V.junk, some V.junk, some V.junk, some V.junk, some V.junk, some V.junk, some V.junk, some V.junk, some V.junk, some V.junk, some V.junk, some V.junk, some V.junk, some V.junk, some V.junk, some V.junk, some V.junk, some V.junk, some V.junk, some V.junk, some V.junk, some V.junk, some V.junk, some V.junk, some V.junk, some V.junk, some V.junk, some V.junk, some V.junk, some V.junk, some V.junk, some V.junk, some V.junk, some V.junk, some V.junk, some V.junk]) (fun i => [.live (dk l (rdnsS l a1 i).2), .live [.nils], .live [.osl 3 0 i 1], .live ((rdnsS l a1 i).1.map atsV)]) k ?_ fun i hi KL hL => ?_
    · dsimp only [ups_some, ups_none, ups_nil, ups_nil']
      exact Le.mk [some 0, some 1, some 2, none] (by simp) (rowsRen_of (by simp) (by simp [rowsOver, rowRen_live, rdnsS, rens_pures])) (by simp)
    dsimp only [ups_some, ups_none, ups_nil, ups_nil']
    have hpn : Pures ((rdnsS l a1 i).1.map atsV) := nms_pures _
    have hlen := rdnsS_len (l := l) (a := a1) i
    rcases Nat.lt_or_ge i k with hi | hi
    · have hle := rdnsS_le ha1 i
      have hs : rdnsS l a1 (i + 1) = ((rdnsS l a1 i).1 ++ [(rdnS l (rdnsS l a1 i).2).1], (rdnS l (rdnsS l a1 i).2).2) := rfl
      rw [hs] at hL
      clear hs
      generalize rdnsS l a1 i = p at *
      obtain ⟨nm, b⟩ := p
      dsimp only at *
      have n5 : MCall Try.prog 10 [.ref 0 0, .int .i64 5] (dk l b) (dk l (dkA l b)) (.int .i64 (dkX l b 5)) := next_call l b 5 hl hle (by omega) (by omega) hr
      have b5 := dkX_bounds (l := l) (a := b) (n := 5) (by omega)
      have at1 := attr_call l (dkA l b) hl (dkA_le hle) hr
      have at2 := attr_call l (dkA l (dkA l b)) hl (dkA_le (dkA_le hle)) hr
      have hrl := rdnS_len (l := l) (a := b)
      obtain ⟨⟨r, b'⟩, hrd⟩ : ∃ q, rdnS l b = q := ⟨_, rfl⟩
      rw [hrd] at hL hrl
      unfold rdnS at hrd
      dsimp only at *
      generalize attrS (dkX l (dkA l b) 12) = A at *
      generalize attrS (dkX l (dkA l (dkA l b)) 12) = B at *
      generalize dkX l b 5 = x at *
      generalize dkA l (dkA l (dkA l b)) = b3 at *
      generalize dkA l (dkA l b) = b2 at *
      generalize dkA l b = b1 at *
      rw [At.c.eq_1] at at1 at2
      iterate 17 (first
        | ((first | refine arun_go0 rfl fun K9 h9 => ?_ | refine arunD_goF rfl rfl fun K9 h9 => ?_ | refine arunD_goT rfl rfl fun K9 h9 => ?_ | (refine arun_go ?_ ?_; (focus (simp ; done)); intro K9 h9) | ((first | refine arunD_gF rfl ?_ ?_ | refine arunD_gT rfl ?_ ?_); (focus (simp ; done)); intro K9 h9)); simp (disch := (first | (simp; done) | omega | (simp; omega))) ; (try simp (disch := (first | omega | (simp; omega))) only [wrap_i64, wrap_u8, wrap_u32, wrap_u64, Int.tmod_eq_emod_of_nonneg, Int.tdiv_eq_ediv_of_nonneg]); (repeat (refine And.intro (by first | omega | (simp; first | done | omega) | assumption | (intro e9; have e8 := congrArg List.length e9; first | (simp at e8; done) | ((try simp only [List.length_map, List.length_append] at e8); rw [List.length_nil] at e8; omega))) ?_)); (first | refine h9 _ _ (arun_slots (by first | (dsimp only [sput, sset]; done) | rfl) ?_) | refine h9 _ _ (arunD_slots' (by first | (dsimp only [sput, sset]; done) | rfl) (by first | (dsimp only [List.tail]; done) | rfl) ?_)); clear h9 K9)
        | (refine arun_end ?_)
        | (refine arunD_end ?_)
        | (refine awp_seq fun K hK => ?_)
        | (refine awp_region ?_)
        | (refine hK _ _ ?_; clear hK K)
        | ((first | refine awp_region_draw' (m := 0) (by decide +kernel) [] (by kernel_rfl) (by decide +kernel) ?_); dsimp only [List.replicate, List.append_nil, List.cons_append, List.nil_append, List.length_cons, List.length_nil])
        | (refine awp_block ?_)
        | (refine awp_cond rfl (fun hcnd => ?_) (fun hcnd => ?_) <;> (try simp at hcnd) <;> (try contradiction) <;> (try (exfalso; omega)))
        | (refine awp_skip ?_)
        | (refine awp_exit ?_; simp only [athen_normal, athen_exit, athen_ret, ablock_self, ablock_ne, ablock_normal, ablock_ret, Nat.reduceBEq])
        | (refine awp_ret ?_; refine ret_go ?_)
        | (refine arun_no ?_ ?_; (focus (simp ; done)); refine arun_slots (by first | (dsimp only [sput, sset]; done) | rfl) ?_)
        | ((first | refine arunD_nF rfl ?_ ?_ | refine arunD_nT rfl ?_ ?_); (focus (simp ; done)); refine arunD_slots' (by first | (dsimp only [sput, sset]; done) | rfl) (by first | (dsimp only [List.tail]; done) | rfl) ?_)
        | (refine fall_go ?_)
        | (simp only [athen_normal, athen_exit, athen_ret, ablock_self, ablock_ne, ablock_normal, ablock_ret, Nat.reduceBEq])
        | (clear hK K; refine hK _ _ ?_; clear hK K)
        | (clear hK K; clear hK K; refine hK _ _ ?_; clear hK K)
        | (clear hK K; clear hK K; clear hK K; refine hK _ _ ?_; clear hK K)
        | (clear hK K; clear hK K; clear hK K; clear hK K; refine hK _ _ ?_; clear hK K)
        | (clear hK K; clear hK K; clear hK K; clear hK K; clear hK K; refine hK _ _ ?_; clear hK K))
      refine awp_seq' fun K0 hK0 hL0 => ?_
      have main : K0 ([.ref 0 0, .junk, .ref 1 0, .ref 2 0, .int .i64 ((k : Int) - i), .osl 4 0 r.length 3, .junk, .junk, .junk, .junk, .junk, .junk, .junk, .junk, .junk, .junk, .junk, .junk, .junk, .junk, .junk, .junk, .junk, .junk, .junk, .junk, .junk, .junk, .junk, .junk, .junk, .junk, .junk, .junk, .junk, .junk, .junk, .junk, .junk, .junk, .junk, .junk, .junk, .junk, .junk, .junk, .junk, .junk]) [.live (dk l b'), .live [.nils], .live [.osl 3 0 i 1], .live (nm.map atsV), .live (r.flatMap At.c)] := by
        refine hK0 _ _ ?_
        clear hK0 hL0 K0 hrd n5 at1 at2 n1
        have hll := ats_len r
        have hpu := ats_pures r
        have hon := flat_one At.c_one r
        have hrV : atsV r = .sl r.length (r.flatMap At.c) := rfl
        rw [List.map_append, List.map_singleton, hrV] at hL
        generalize r.flatMap At.c = cy at *
        have htl : (nm.map atsV).length = i := by simpa using hlen
        generalize nm.map atsV = cn at *
        refine awp_freeze' 4 rfl hpu (by simp [fz, ← hll]; rfl) (by simp [fzRow, fz, ← hll, fz_map hpn, fz_map (dk_pures _ _)]; rfl) ?_
        repeat' (first
          | ((first | refine arun_go0 rfl fun K9 h9 => ?_ | refine arunD_goF rfl rfl fun K9 h9 => ?_ | refine arunD_goT rfl rfl fun K9 h9 => ?_ | (refine arun_go ?_ ?_; (focus (simp [hll, hon]; done)); intro K9 h9) | ((first | refine arunD_gF rfl ?_ ?_ | refine arunD_gT rfl ?_ ?_); (focus (simp [hll, hon]; done)); intro K9 h9)); simp (disch := (first | (simp; done) | omega | (simp; omega))) [hll, hon]; (try simp (disch := (first | omega | (simp; omega))) only [wrap_i64, wrap_u8, wrap_u32, wrap_u64, Int.tmod_eq_emod_of_nonneg, Int.tdiv_eq_ediv_of_nonneg]); (repeat (refine And.intro (by first | omega | (simp; first | done | omega) | assumption | (intro e9; have e8 := congrArg List.length e9; first | (simp at e8; done) | ((try simp only [List.length_map, List.length_append] at e8); rw [List.length_nil] at e8; omega))) ?_)); (first | refine h9 _ _ (arun_slots (by first | (dsimp only [sput, sset]; done) | rfl) ?_) | refine h9 _ _ (arunD_slots' (by first | (dsimp only [sput, sset]; done) | rfl) (by first | (dsimp only [List.tail]; done) | rfl) ?_)); clear h9 K9)
          | (refine arun_end ?_)
          | (refine arunD_end ?_)
          | (refine awp_seq fun K hK => ?_)
          | (refine awp_region ?_)
          | (refine hK _ _ ?_; clear hK K)
          | ((first | refine awp_region_draw' (m := 0) (by decide +kernel) [] (by kernel_rfl) (by decide +kernel) ?_); dsimp only [List.replicate, List.append_nil, List.cons_append, List.nil_append, List.length_cons, List.length_nil])
          | (refine awp_block ?_)
          | (refine awp_cond rfl (fun hcnd => ?_) (fun hcnd => ?_) <;> (try simp at hcnd) <;> (try contradiction) <;> (try (exfalso; omega)))
          | (refine awp_skip ?_)
          | (refine awp_exit ?_; simp only [athen_normal, athen_exit, athen_ret, ablock_self, ablock_ne, ablock_normal, ablock_ret, Nat.reduceBEq])
          | (refine awp_ret ?_; refine ret_go ?_)
          | (refine arun_no ?_ ?_; (focus (simp [hll, hon]; done)); refine arun_slots (by first | (dsimp only [sput, sset]; done) | rfl) ?_)
          | ((first | refine arunD_nF rfl ?_ ?_ | refine arunD_nT rfl ?_ ?_); (focus (simp [hll, hon]; done)); refine arunD_slots' (by first | (dsimp only [sput, sset]; done) | rfl) (by first | (dsimp only [List.tail]; done) | rfl) ?_)
          | (refine fall_go ?_)
          | (simp only [athen_normal, athen_exit, athen_ret, ablock_self, ablock_ne, ablock_normal, ablock_ret, Nat.reduceBEq])
          | (clear hK K; refine hK _ _ ?_; clear hK K)
          | (clear hK K; clear hK K; refine hK _ _ ?_; clear hK K)
          | (clear hK K; clear hK K; clear hK K; refine hK _ _ ?_; clear hK K)
          | (clear hK K; clear hK K; clear hK K; clear hK K; refine hK _ _ ?_; clear hK K)
          | (clear hK K; clear hK K; clear hK K; clear hK K; clear hK K; refine hK _ _ ?_; clear hK K))
        have hp3 : Pures (cn ++ [V.sl r.length cy]) := by simp [hpn]
        refine hL _ _ hi ?_
        exact Le.mk [some 0, some 1, some 2, some 6] (by dsimp only [ups_some, ups_none, ups_nil, ups_nil']; simp; omega) (rowsRen_of (by simp) (by simp [rowsOver, rowRen_live, List.take_of_length_le, htl, rens_pures hp3, rens_pures])) (by simp)
      clear hL hK0
      by_cases hx : x < 4
      · rw [if_pos hx] at hrd
        obtain ⟨rfl, rfl⟩ := Prod.mk.inj hrd
        have hdiv : x / 4 = 0 := by omega
        repeat' (first
          | ((first | refine arun_go0 rfl fun K9 h9 => ?_ | refine arunD_goF rfl rfl fun K9 h9 => ?_ | refine arunD_goT rfl rfl fun K9 h9 => ?_ | (refine arun_go ?_ ?_; (focus (simp [hdiv]; done)); intro K9 h9) | ((first | refine arunD_gF rfl ?_ ?_ | refine arunD_gT rfl ?_ ?_); (focus (simp [hdiv]; done)); intro K9 h9)); simp (disch := (first | (simp; done) | omega | (simp; omega))) [hdiv]; (try simp (disch := (first | omega | (simp; omega))) only [wrap_i64, wrap_u8, wrap_u32, wrap_u64, Int.tmod_eq_emod_of_nonneg, Int.tdiv_eq_ediv_of_nonneg]); (first | refine acall_mutd n5 rfl (dk_pures _ _) (dk_pures _ _) .int (by simp) ?_ | skip); (repeat (refine And.intro (by first | omega | (simp; first | done | omega) | assumption | (intro e9; have e8 := congrArg List.length e9; first | (simp at e8; done) | ((try simp only [List.length_map, List.length_append] at e8); rw [List.length_nil] at e8; omega))) ?_)); (first | refine h9 _ _ (arun_slots (by first | (dsimp only [sput, sset]; done) | rfl) ?_) | refine h9 _ _ (arunD_slots' (by first | (dsimp only [sput, sset]; done) | rfl) (by first | (dsimp only [List.tail]; done) | rfl) ?_)); clear h9 K9)
          | (refine arun_end ?_)
          | (refine arunD_end ?_)
          | (refine awp_seq fun K hK => ?_)
          | (refine awp_region ?_)
          | (refine hK _ _ ?_; clear hK K)
          | ((first | refine awp_region_draw' (m := 0) (by decide +kernel) [] (by kernel_rfl) (by decide +kernel) ?_); dsimp only [List.replicate, List.append_nil, List.cons_append, List.nil_append, List.length_cons, List.length_nil])
          | (refine awp_block ?_)
          | (refine awp_cond rfl (fun hcnd => ?_) (fun hcnd => ?_) <;> (try simp at hcnd) <;> (try contradiction) <;> (try (exfalso; omega)))
          | (refine awp_skip ?_)
          | (refine awp_exit ?_; simp only [athen_normal, athen_exit, athen_ret, ablock_self, ablock_ne, ablock_normal, ablock_ret, Nat.reduceBEq])
          | (refine awp_ret ?_; refine ret_go ?_)
          | (refine arun_no ?_ ?_; (focus (simp [hdiv]; done)); refine arun_slots (by first | (dsimp only [sput, sset]; done) | rfl) ?_)
          | ((first | refine arunD_nF rfl ?_ ?_ | refine arunD_nT rfl ?_ ?_); (focus (simp [hdiv]; done)); refine arunD_slots' (by first | (dsimp only [sput, sset]; done) | rfl) (by first | (dsimp only [List.tail]; done) | rfl) ?_)
          | (refine fall_go ?_)
          | (simp only [athen_normal, athen_exit, athen_ret, ablock_self, ablock_ne, ablock_normal, ablock_ret, Nat.reduceBEq])
          | (clear hK K; refine hK _ _ ?_; clear hK K)
          | (clear hK K; clear hK K; refine hK _ _ ?_; clear hK K)
          | (clear hK K; clear hK K; clear hK K; refine hK _ _ ?_; clear hK K)
          | (clear hK K; clear hK K; clear hK K; clear hK K; refine hK _ _ ?_; clear hK K)
          | (clear hK K; clear hK K; clear hK K; clear hK K; clear hK K; refine hK _ _ ?_; clear hK K))
        have hpn' := hpn
        generalize nm.map atsV = cn at *
        refine awp_countU (fun j => [none, none, none, none, none, some (V.osl 4 0 j 3), some (V.int .i64 (1 - (j : Int))), some V.junk, some V.junk, some V.junk, some V.junk, some V.junk, some V.junk, some V.junk, some V.junk, some V.junk, some V.junk, some V.junk, some V.junk, some V.junk, some V.junk, some V.junk, some V.junk, some V.junk, some V.junk, some V.junk, some V.junk, some V.junk, some V.junk, some V.junk, some V.junk, some V.junk, some V.junk, some V.junk, some V.junk, some V.junk, some V.junk, some V.junk, some V.junk, some V.junk, some V.junk, some V.junk, some V.junk, some V.junk, some V.junk, some V.junk, some V.junk, some V.junk]) (fun j => [.live (dk l (if j = 0 then b1 else b2)), .live [.nils], .live [.osl 3 0 i 1], .live cn, .live (if j = 0 then [] else [.str A.t, .int .i64 A.k, .str A.v])]) 1 ?_ fun j hj KL hL => ?_
        · dsimp only [ups_some, ups_none, ups_nil, ups_nil']
          exact Le.mk [some 0, some 1, some 2, some 3, none] (by simp) (rowsRen_of (by simp) (by simp [rowsOver, rowRen_live, rens_pures hpn, rens_pures])) (by simp)
        dsimp only [ups_some, ups_none, ups_nil, ups_nil']
        match j, hj with
        | 0, _ =>
          repeat' (first
            | ((first | refine arun_go0 rfl fun K9 h9 => ?_ | refine arunD_goF rfl rfl fun K9 h9 => ?_ | refine arunD_goT rfl rfl fun K9 h9 => ?_ | (refine arun_go ?_ ?_; (focus (simp ; done)); intro K9 h9) | ((first | refine arunD_gF rfl ?_ ?_ | refine arunD_gT rfl ?_ ?_); (focus (simp ; done)); intro K9 h9)); simp (disch := (first | (simp; done) | omega | (simp; omega))) ; (try simp (disch := (first | omega | (simp; omega))) only [wrap_i64, wrap_u8, wrap_u32, wrap_u64, Int.tmod_eq_emod_of_nonneg, Int.tdiv_eq_ediv_of_nonneg]); (first | refine acall_mutd at1 rfl (dk_pures _ _) (dk_pures _ _) (by simp) (by simp) ?_ | skip); (repeat (refine And.intro (by first | omega | (simp; first | done | omega) | assumption | (intro e9; have e8 := congrArg List.length e9; first | (simp at e8; done) | ((try simp only [List.length_map, List.length_append] at e8); rw [List.length_nil] at e8; omega))) ?_)); (first | refine h9 _ _ (arun_slots (by first | (dsimp only [sput, sset]; done) | rfl) ?_) | refine h9 _ _ (arunD_slots' (by first | (dsimp only [sput, sset]; done) | rfl) (by first | (dsimp only [List.tail]; done) | rfl) ?_)); clear h9 K9)
            | (refine arun_end ?_)
            | (refine arunD_end ?_)
            | (refine awp_seq fun K hK => ?_)
            | (refine awp_region ?_)
            | (refine hK _ _ ?_; clear hK K)
            | ((first | refine awp_region_draw' (m := 0) (by decide +kernel) [] (by kernel_rfl) (by decide +kernel) ?_); dsimp only [List.replicate, List.append_nil, List.cons_append, List.nil_append, List.length_cons, List.length_nil])
            | (refine awp_block ?_)
            | (refine awp_cond rfl (fun hcnd => ?_) (fun hcnd => ?_) <;> (try simp at hcnd) <;> (try contradiction) <;> (try (exfalso; omega)))
            | (refine awp_skip ?_)
            | (refine awp_exit ?_; simp only [athen_normal, athen_exit, athen_ret, ablock_self, ablock_ne, ablock_normal, ablock_ret, Nat.reduceBEq])
            | (refine awp_ret ?_; refine ret_go ?_)
            | (refine arun_no ?_ ?_; (focus (simp ; done)); refine arun_slots (by first | (dsimp only [sput, sset]; done) | rfl) ?_)
            | ((first | refine arunD_nF rfl ?_ ?_ | refine arunD_nT rfl ?_ ?_); (focus (simp ; done)); refine arunD_slots' (by first | (dsimp only [sput, sset]; done) | rfl) (by first | (dsimp only [List.tail]; done) | rfl) ?_)
            | (refine fall_go ?_)
            | (simp only [athen_normal, athen_exit, athen_ret, ablock_self, ablock_ne, ablock_normal, ablock_ret, Nat.reduceBEq])
            | (clear hK K; refine hK _ _ ?_; clear hK K)
            | (clear hK K; clear hK K; refine hK _ _ ?_; clear hK K)
            | (clear hK K; clear hK K; clear hK K; refine hK _ _ ?_; clear hK K)
            | (clear hK K; clear hK K; clear hK K; clear hK K; refine hK _ _ ?_; clear hK K)
            | (clear hK K; clear hK K; clear hK K; clear hK K; clear hK K; refine hK _ _ ?_; clear hK K))
          refine hL _ _ (by omega) ?_
          exact Le.mk [some 0, some 1, some 2, some 3, some 7] (by dsimp only [ups_some, ups_none, ups_nil, ups_nil']; simp) (rowsRen_of (by simp) (by simp [rowsOver, rowRen_live, rens_pures hpn, rens_pures])) (by simp)
        | 1, _ =>
          repeat' (first
            | ((first | refine arun_go0 rfl fun K9 h9 => ?_ | refine arunD_goF rfl rfl fun K9 h9 => ?_ | refine arunD_goT rfl rfl fun K9 h9 => ?_ | (refine arun_go ?_ ?_; (focus (simp ; done)); intro K9 h9) | ((first | refine arunD_gF rfl ?_ ?_ | refine arunD_gT rfl ?_ ?_); (focus (simp ; done)); intro K9 h9)); simp (disch := (first | (simp; done) | omega | (simp; omega))) ; (try simp (disch := (first | omega | (simp; omega))) only [wrap_i64, wrap_u8, wrap_u32, wrap_u64, Int.tmod_eq_emod_of_nonneg, Int.tdiv_eq_ediv_of_nonneg]); (repeat (refine And.intro (by first | omega | (simp; first | done | omega) | assumption | (intro e9; have e8 := congrArg List.length e9; first | (simp at e8; done) | ((try simp only [List.length_map, List.length_append] at e8); rw [List.length_nil] at e8; omega))) ?_)); (first | refine h9 _ _ (arun_slots (by first | (dsimp only [sput, sset]; done) | rfl) ?_) | refine h9 _ _ (arunD_slots' (by first | (dsimp only [sput, sset]; done) | rfl) (by first | (dsimp only [List.tail]; done) | rfl) ?_)); clear h9 K9)
            | (refine arun_end ?_)
            | (refine arunD_end ?_)
            | (refine awp_seq fun K hK => ?_)
            | (refine awp_region ?_)
            | (refine hK _ _ ?_; clear hK K)
            | ((first | refine awp_region_draw' (m := 0) (by decide +kernel) [] (by kernel_rfl) (by decide +kernel) ?_); dsimp only [List.replicate, List.append_nil, List.cons_append, List.nil_append, List.length_cons, List.length_nil])
            | (refine awp_block ?_)
            | (refine awp_cond rfl (fun hcnd => ?_) (fun hcnd => ?_) <;> (try simp at hcnd) <;> (try contradiction) <;> (try (exfalso; omega)))
            | (refine awp_skip ?_)
            | (refine awp_exit ?_; simp only [athen_normal, athen_exit, athen_ret, ablock_self, ablock_ne, ablock_normal, ablock_ret, Nat.reduceBEq])
            | (refine awp_ret ?_; refine ret_go ?_)
            | (refine arun_no ?_ ?_; (focus (simp ; done)); refine arun_slots (by first | (dsimp only [sput, sset]; done) | rfl) ?_)
            | ((first | refine arunD_nF rfl ?_ ?_ | refine arunD_nT rfl ?_ ?_); (focus (simp ; done)); refine arunD_slots' (by first | (dsimp only [sput, sset]; done) | rfl) (by first | (dsimp only [List.tail]; done) | rfl) ?_)
            | (refine fall_go ?_)
            | (simp only [athen_normal, athen_exit, athen_ret, ablock_self, ablock_ne, ablock_normal, ablock_ret, Nat.reduceBEq])
            | (clear hK K; refine hK _ _ ?_; clear hK K)
            | (clear hK K; clear hK K; refine hK _ _ ?_; clear hK K)
            | (clear hK K; clear hK K; clear hK K; refine hK _ _ ?_; clear hK K)
            | (clear hK K; clear hK K; clear hK K; clear hK K; refine hK _ _ ?_; clear hK K)
            | (clear hK K; clear hK K; clear hK K; clear hK K; clear hK K; refine hK _ _ ?_; clear hK K))
          refine hL0 _ _ _ _ ?_ main
          exact Le.mk [some 0, some 1, some 2, some 3, some 4] (by simp) (rowsRen_of (by simp) (by simp [rowsOver, rowRen_live, rens_pures hpn, rens_pures, At.c])) (by simp)
      · rw [if_neg hx] at hrd
        obtain ⟨h1, rfl⟩ := Prod.mk.inj hrd
        have hdiv : x / 4 = 1 := by omega
        repeat' (first
          | ((first | refine arun_go0 rfl fun K9 h9 => ?_ | refine arunD_goF rfl rfl fun K9 h9 => ?_ | refine arunD_goT rfl rfl fun K9 h9 => ?_ | (refine arun_go ?_ ?_; (focus (simp [hdiv]; done)); intro K9 h9) | ((first | refine arunD_gF rfl ?_ ?_ | refine arunD_gT rfl ?_ ?_); (focus (simp [hdiv]; done)); intro K9 h9)); simp (disch := (first | (simp; done) | omega | (simp; omega))) [hdiv]; (try simp (disch := (first | omega | (simp; omega))) only [wrap_i64, wrap_u8, wrap_u32, wrap_u64, Int.tmod_eq_emod_of_nonneg, Int.tdiv_eq_ediv_of_nonneg]); (first | refine acall_mutd n5 rfl (dk_pures _ _) (dk_pures _ _) .int (by simp) ?_ | skip); (repeat (refine And.intro (by first | omega | (simp; first | done | omega) | assumption | (intro e9; have e8 := congrArg List.length e9; first | (simp at e8; done) | ((try simp only [List.length_map, List.length_append] at e8); rw [List.length_nil] at e8; omega))) ?_)); (first | refine h9 _ _ (arun_slots (by first | (dsimp only [sput, sset]; done) | rfl) ?_) | refine h9 _ _ (arunD_slots' (by first | (dsimp only [sput, sset]; done) | rfl) (by first | (dsimp only [List.tail]; done) | rfl) ?_)); clear h9 K9)
          | (refine arun_end ?_)
          | (refine arunD_end ?_)
          | (refine awp_seq fun K hK => ?_)
          | (refine awp_region ?_)
          | (refine hK _ _ ?_; clear hK K)
          | ((first | refine awp_region_draw' (m := 0) (by decide +kernel) [] (by kernel_rfl) (by decide +kernel) ?_); dsimp only [List.replicate, List.append_nil, List.cons_append, List.nil_append, List.length_cons, List.length_nil])
          | (refine awp_block ?_)
          | (refine awp_cond rfl (fun hcnd => ?_) (fun hcnd => ?_) <;> (try simp at hcnd) <;> (try contradiction) <;> (try (exfalso; omega)))
          | (refine awp_skip ?_)
          | (refine awp_exit ?_; simp only [athen_normal, athen_exit, athen_ret, ablock_self, ablock_ne, ablock_normal, ablock_ret, Nat.reduceBEq])
          | (refine awp_ret ?_; refine ret_go ?_)
          | (refine arun_no ?_ ?_; (focus (simp [hdiv]; done)); refine arun_slots (by first | (dsimp only [sput, sset]; done) | rfl) ?_)
          | ((first | refine arunD_nF rfl ?_ ?_ | refine arunD_nT rfl ?_ ?_); (focus (simp [hdiv]; done)); refine arunD_slots' (by first | (dsimp only [sput, sset]; done) | rfl) (by first | (dsimp only [List.tail]; done) | rfl) ?_)
          | (refine fall_go ?_)
          | (simp only [athen_normal, athen_exit, athen_ret, ablock_self, ablock_ne, ablock_normal, ablock_ret, Nat.reduceBEq])
          | (clear hK K; refine hK _ _ ?_; clear hK K)
          | (clear hK K; clear hK K; refine hK _ _ ?_; clear hK K)
          | (clear hK K; clear hK K; clear hK K; refine hK _ _ ?_; clear hK K)
          | (clear hK K; clear hK K; clear hK K; clear hK K; refine hK _ _ ?_; clear hK K)
          | (clear hK K; clear hK K; clear hK K; clear hK K; clear hK K; refine hK _ _ ?_; clear hK K))
        generalize nm.map atsV = cn at *
        refine awp_countU (fun j => [none, none, none, none, none, some (V.osl 4 0 (if j = 2 then r.length else j) 3), some (V.int .i64 (2 - (j : Int))), some V.junk, some V.junk, some V.junk, some V.junk, some V.junk, some V.junk, some V.junk, some V.junk, some V.junk, some V.junk, some V.junk, some V.junk, some V.junk, some V.junk, some V.junk, some V.junk, some V.junk, some V.junk, some V.junk, some V.junk, some V.junk, some V.junk, some V.junk, some V.junk, some V.junk, some V.junk, some V.junk, some V.junk, some V.junk, some V.junk, some V.junk, some V.junk, some V.junk, some V.junk, some V.junk, some V.junk, some V.junk, some V.junk, some V.junk, some V.junk, some V.junk]) (fun j => [.live (dk l (if j = 0 then b1 else if j = 1 then b2 else b3)), .live [.nils], .live [.osl 3 0 i 1], .live cn, .live (if j = 0 then [] else if j = 1 then [.str A.t, .int .i64 A.k, .str A.v] else r.flatMap At.c)]) 2 ?_ fun j hj KL hL => ?_
        · dsimp only [ups_some, ups_none, ups_nil, ups_nil']
          exact Le.mk [some 0, some 1, some 2, some 3, none] (by simp) (rowsRen_of (by simp) (by simp [rowsOver, rowRen_live, rens_pures hpn, rens_pures])) (by simp)
        dsimp only [ups_some, ups_none, ups_nil, ups_nil']
        match j, hj with
        | 0, _ =>
          repeat' (first
            | ((first | refine arun_go0 rfl fun K9 h9 => ?_ | refine arunD_goF rfl rfl fun K9 h9 => ?_ | refine arunD_goT rfl rfl fun K9 h9 => ?_ | (refine arun_go ?_ ?_; (focus (simp ; done)); intro K9 h9) | ((first | refine arunD_gF rfl ?_ ?_ | refine arunD_gT rfl ?_ ?_); (focus (simp ; done)); intro K9 h9)); simp (disch := (first | (simp; done) | omega | (simp; omega))) ; (try simp (disch := (first | omega | (simp; omega))) only [wrap_i64, wrap_u8, wrap_u32, wrap_u64, Int.tmod_eq_emod_of_nonneg, Int.tdiv_eq_ediv_of_nonneg]); (first | refine acall_mutd at1 rfl (dk_pures _ _) (dk_pures _ _) (by simp) (by simp) ?_ | skip); (repeat (refine And.intro (by first | omega | (simp; first | done | omega) | assumption | (intro e9; have e8 := congrArg List.length e9; first | (simp at e8; done) | ((try simp only [List.length_map, List.length_append] at e8); rw [List.length_nil] at e8; omega))) ?_)); (first | refine h9 _ _ (arun_slots (by first | (dsimp only [sput, sset]; done) | rfl) ?_) | refine h9 _ _ (arunD_slots' (by first | (dsimp only [sput, sset]; done) | rfl) (by first | (dsimp only [List.tail]; done) | rfl) ?_)); clear h9 K9)
            | (refine arun_end ?_)
            | (refine arunD_end ?_)
            | (refine awp_seq fun K hK => ?_)
            | (refine awp_region ?_)
            | (refine hK _ _ ?_; clear hK K)
            | ((first | refine awp_region_draw' (m := 0) (by decide +kernel) [] (by kernel_rfl) (by decide +kernel) ?_); dsimp only [List.replicate, List.append_nil, List.cons_append, List.nil_append, List.length_cons, List.length_nil])
            | (refine awp_block ?_)
            | (refine awp_cond rfl (fun hcnd => ?_) (fun hcnd => ?_) <;> (try simp at hcnd) <;> (try contradiction) <;> (try (exfalso; omega)))
            | (refine awp_skip ?_)
            | (refine awp_exit ?_; simp only [athen_normal, athen_exit, athen_ret, ablock_self, ablock_ne, ablock_normal, ablock_ret, Nat.reduceBEq])
            | (refine awp_ret ?_; refine ret_go ?_)
            | (refine arun_no ?_ ?_; (focus (simp ; done)); refine arun_slots (by first | (dsimp only [sput, sset]; done) | rfl) ?_)
            | ((first | refine arunD_nF rfl ?_ ?_ | refine arunD_nT rfl ?_ ?_); (focus (simp ; done)); refine arunD_slots' (by first | (dsimp only [sput, sset]; done) | rfl) (by first | (dsimp only [List.tail]; done) | rfl) ?_)
            | (refine fall_go ?_)
            | (simp only [athen_normal, athen_exit, athen_ret, ablock_self, ablock_ne, ablock_normal, ablock_ret, Nat.reduceBEq])
            | (clear hK K; refine hK _ _ ?_; clear hK K)
            | (clear hK K; clear hK K; refine hK _ _ ?_; clear hK K)
            | (clear hK K; clear hK K; clear hK K; refine hK _ _ ?_; clear hK K)
            | (clear hK K; clear hK K; clear hK K; clear hK K; refine hK _ _ ?_; clear hK K)
            | (clear hK K; clear hK K; clear hK K; clear hK K; clear hK K; refine hK _ _ ?_; clear hK K))
          refine hL _ _ (by omega) ?_
          exact Le.mk [some 0, some 1, some 2, some 3, some 7] (by dsimp only [ups_some, ups_none, ups_nil, ups_nil']; simp) (rowsRen_of (by simp) (by simp [rowsOver, rowRen_live, rens_pures hpn, rens_pures])) (by simp)
        | 1, _ =>
          by_cases hAB : A.t = B.t
          · rw [if_pos hAB] at h1
            subst h1
            repeat' (first
              | ((first | refine arun_go0 rfl fun K9 h9 => ?_ | refine arunD_goF rfl rfl fun K9 h9 => ?_ | refine arunD_goT rfl rfl fun K9 h9 => ?_ | (refine arun_go ?_ ?_; (focus (simp [hAB]; done)); intro K9 h9) | ((first | refine arunD_gF rfl ?_ ?_ | refine arunD_gT rfl ?_ ?_); (focus (simp [hAB]; done)); intro K9 h9)); simp (disch := (first | (simp; done) | omega | (simp; omega))) [hAB]; (try simp (disch := (first | omega | (simp; omega))) only [wrap_i64, wrap_u8, wrap_u32, wrap_u64, Int.tmod_eq_emod_of_nonneg, Int.tdiv_eq_ediv_of_nonneg]); (first | refine acall_mutd at2 rfl (dk_pures _ _) (dk_pures _ _) (by simp) (by simp) ?_ | skip); (repeat (refine And.intro (by first | omega | (simp; first | done | omega) | assumption | (intro e9; have e8 := congrArg List.length e9; first | (simp at e8; done) | ((try simp only [List.length_map, List.length_append] at e8); rw [List.length_nil] at e8; omega))) ?_)); (first | refine h9 _ _ (arun_slots (by first | (dsimp only [sput, sset]; done) | rfl) ?_) | refine h9 _ _ (arunD_slots' (by first | (dsimp only [sput, sset]; done) | rfl) (by first | (dsimp only [List.tail]; done) | rfl) ?_)); clear h9 K9)
              | (refine arun_end ?_)
              | (refine arunD_end ?_)
              | (refine awp_seq fun K hK => ?_)
              | (refine awp_region ?_)
              | (refine hK _ _ ?_; clear hK K)
              | ((first | refine awp_region_draw' (m := 0) (by decide +kernel) [] (by kernel_rfl) (by decide +kernel) ?_); dsimp only [List.replicate, List.append_nil, List.cons_append, List.nil_append, List.length_cons, List.length_nil])
              | (refine awp_block ?_)
              | (refine awp_cond rfl (fun hcnd => ?_) (fun hcnd => ?_) <;> (try simp at hcnd) <;> (try contradiction) <;> (try (exfalso; omega)))
              | (refine awp_skip ?_)
              | (refine awp_exit ?_; simp only [athen_normal, athen_exit, athen_ret, ablock_self, ablock_ne, ablock_normal, ablock_ret, Nat.reduceBEq])
              | (refine awp_ret ?_; refine ret_go ?_)
              | (refine arun_no ?_ ?_; (focus (simp [hAB]; done)); refine arun_slots (by first | (dsimp only [sput, sset]; done) | rfl) ?_)
              | ((first | refine arunD_nF rfl ?_ ?_ | refine arunD_nT rfl ?_ ?_); (focus (simp [hAB]; done)); refine arunD_slots' (by first | (dsimp only [sput, sset]; done) | rfl) (by first | (dsimp only [List.tail]; done) | rfl) ?_)
              | (refine fall_go ?_)
              | (simp only [athen_normal, athen_exit, athen_ret, ablock_self, ablock_ne, ablock_normal, ablock_ret, Nat.reduceBEq])
              | (clear hK K; refine hK _ _ ?_; clear hK K)
              | (clear hK K; clear hK K; refine hK _ _ ?_; clear hK K)
              | (clear hK K; clear hK K; clear hK K; refine hK _ _ ?_; clear hK K)
              | (clear hK K; clear hK K; clear hK K; clear hK K; refine hK _ _ ?_; clear hK K)
              | (clear hK K; clear hK K; clear hK K; clear hK K; clear hK K; refine hK _ _ ?_; clear hK K))
            refine hL _ _ (by omega) ?_
            exact Le.mk [some 0, some 1, some 2, some 3, some 4] (by dsimp only [ups_some, ups_none, ups_nil, ups_nil']; simp) (rowsRen_of (by simp) (by simp [rowsOver, rowRen_live, rens_pures hpn, rens_pures, At.c, hAB])) (by simp)
          · rw [if_neg hAB] at h1
            subst h1
            repeat' (first
              | ((first | refine arun_go0 rfl fun K9 h9 => ?_ | refine arunD_goF rfl rfl fun K9 h9 => ?_ | refine arunD_goT rfl rfl fun K9 h9 => ?_ | (refine arun_go ?_ ?_; (focus (simp [hAB]; done)); intro K9 h9) | ((first | refine arunD_gF rfl ?_ ?_ | refine arunD_gT rfl ?_ ?_); (focus (simp [hAB]; done)); intro K9 h9)); simp (disch := (first | (simp; done) | omega | (simp; omega))) [hAB]; (try simp (disch := (first | omega | (simp; omega))) only [wrap_i64, wrap_u8, wrap_u32, wrap_u64, Int.tmod_eq_emod_of_nonneg, Int.tdiv_eq_ediv_of_nonneg]); (first | refine acall_mutd at2 rfl (dk_pures _ _) (dk_pures _ _) (by simp) (by simp) ?_ | skip); (repeat (refine And.intro (by first | omega | (simp; first | done | omega) | assumption | (intro e9; have e8 := congrArg List.length e9; first | (simp at e8; done) | ((try simp only [List.length_map, List.length_append] at e8); rw [List.length_nil] at e8; omega))) ?_)); (first | refine h9 _ _ (arun_slots (by first | (dsimp only [sput, sset]; done) | rfl) ?_) | refine h9 _ _ (arunD_slots' (by first | (dsimp only [sput, sset]; done) | rfl) (by first | (dsimp only [List.tail]; done) | rfl) ?_)); clear h9 K9)
              | (refine arun_end ?_)
              | (refine arunD_end ?_)
              | (refine awp_seq fun K hK => ?_)
              | (refine awp_region ?_)
              | (refine hK _ _ ?_; clear hK K)
              | ((first | refine awp_region_draw' (m := 0) (by decide +kernel) [] (by kernel_rfl) (by decide +kernel) ?_); dsimp only [List.replicate, List.append_nil, List.cons_append, List.nil_append, List.length_cons, List.length_nil])
              | (refine awp_block ?_)
              | (refine awp_cond rfl (fun hcnd => ?_) (fun hcnd => ?_) <;> (try simp at hcnd) <;> (try contradiction) <;> (try (exfalso; omega)))
              | (refine awp_skip ?_)
              | (refine awp_exit ?_; simp only [athen_normal, athen_exit, athen_ret, ablock_self, ablock_ne, ablock_normal, ablock_ret, Nat.reduceBEq])
              | (refine awp_ret ?_; refine ret_go ?_)
              | (refine arun_no ?_ ?_; (focus (simp [hAB]; done)); refine arun_slots (by first | (dsimp only [sput, sset]; done) | rfl) ?_)
              | ((first | refine arunD_nF rfl ?_ ?_ | refine arunD_nT rfl ?_ ?_); (focus (simp [hAB]; done)); refine arunD_slots' (by first | (dsimp only [sput, sset]; done) | rfl) (by first | (dsimp only [List.tail]; done) | rfl) ?_)
              | (refine fall_go ?_)
              | (simp only [athen_normal, athen_exit, athen_ret, ablock_self, ablock_ne, ablock_normal, ablock_ret, Nat.reduceBEq])
              | (clear hK K; refine hK _ _ ?_; clear hK K)
              | (clear hK K; clear hK K; refine hK _ _ ?_; clear hK K)
              | (clear hK K; clear hK K; clear hK K; refine hK _ _ ?_; clear hK K)
              | (clear hK K; clear hK K; clear hK K; clear hK K; refine hK _ _ ?_; clear hK K)
              | (clear hK K; clear hK K; clear hK K; clear hK K; clear hK K; refine hK _ _ ?_; clear hK K))
            refine hL _ _ (by omega) ?_
            exact Le.mk [some 0, some 1, some 2, some 3, some 7] (by dsimp only [ups_some, ups_none, ups_nil, ups_nil']; simp) (rowsRen_of (by simp) (by simp [rowsOver, rowRen_live, rens_pures hpn, rens_pures, At.c])) (by simp)
        | 2, _ =>
          repeat' (first
            | ((first | refine arun_go0 rfl fun K9 h9 => ?_ | refine arunD_goF rfl rfl fun K9 h9 => ?_ | refine arunD_goT rfl rfl fun K9 h9 => ?_ | (refine arun_go ?_ ?_; (focus (simp ; done)); intro K9 h9) | ((first | refine arunD_gF rfl ?_ ?_ | refine arunD_gT rfl ?_ ?_); (focus (simp ; done)); intro K9 h9)); simp (disch := (first | (simp; done) | omega | (simp; omega))) ; (try simp (disch := (first | omega | (simp; omega))) only [wrap_i64, wrap_u8, wrap_u32, wrap_u64, Int.tmod_eq_emod_of_nonneg, Int.tdiv_eq_ediv_of_nonneg]); (repeat (refine And.intro (by first | omega | (simp; first | done | omega) | assumption | (intro e9; have e8 := congrArg List.length e9; first | (simp at e8; done) | ((try simp only [List.length_map, List.length_append] at e8); rw [List.length_nil] at e8; omega))) ?_)); (first | refine h9 _ _ (arun_slots (by first | (dsimp only [sput, sset]; done) | rfl) ?_) | refine h9 _ _ (arunD_slots' (by first | (dsimp only [sput, sset]; done) | rfl) (by first | (dsimp only [List.tail]; done) | rfl) ?_)); clear h9 K9)
            | (refine arun_end ?_)
            | (refine arunD_end ?_)
            | (refine awp_seq fun K hK => ?_)
            | (refine awp_region ?_)
            | (refine hK _ _ ?_; clear hK K)
            | ((first | refine awp_region_draw' (m := 0) (by decide +kernel) [] (by kernel_rfl) (by decide +kernel) ?_); dsimp only [List.replicate, List.append_nil, List.cons_append, List.nil_append, List.length_cons, List.length_nil])
            | (refine awp_block ?_)
            | (refine awp_cond rfl (fun hcnd => ?_) (fun hcnd => ?_) <;> (try simp at hcnd) <;> (try contradiction) <;> (try (exfalso; omega)))
            | (refine awp_skip ?_)
            | (refine awp_exit ?_; simp only [athen_normal, athen_exit, athen_ret, ablock_self, ablock_ne, ablock_normal, ablock_ret, Nat.reduceBEq])
            | (refine awp_ret ?_; refine ret_go ?_)
            | (refine arun_no ?_ ?_; (focus (simp ; done)); refine arun_slots (by first | (dsimp only [sput, sset]; done) | rfl) ?_)
            | ((first | refine arunD_nF rfl ?_ ?_ | refine arunD_nT rfl ?_ ?_); (focus (simp ; done)); refine arunD_slots' (by first | (dsimp only [sput, sset]; done) | rfl) (by first | (dsimp only [List.tail]; done) | rfl) ?_)
            | (refine fall_go ?_)
            | (simp only [athen_normal, athen_exit, athen_ret, ablock_self, ablock_ne, ablock_normal, ablock_ret, Nat.reduceBEq])
            | (clear hK K; refine hK _ _ ?_; clear hK K)
            | (clear hK K; clear hK K; refine hK _ _ ?_; clear hK K)
            | (clear hK K; clear hK K; clear hK K; refine hK _ _ ?_; clear hK K)
            | (clear hK K; clear hK K; clear hK K; clear hK K; refine hK _ _ ?_; clear hK K)
            | (clear hK K; clear hK K; clear hK K; clear hK K; clear hK K; refine hK _ _ ?_; clear hK K))
          refine hL0 _ _ _ _ ?_ main
          exact Le.mk [some 0, some 1, some 2, some 3, some 4] (by simp) (rowsRen_of (by simp) (by simp [rowsOver, rowRen_live, rens_pures hpn, rens_pures])) (by simp)
    · obtain rfl : i = k := by omega
      repeat' (first
        | ((first | refine arun_go0 rfl fun K9 h9 => ?_ | refine arunD_goF rfl rfl fun K9 h9 => ?_ | refine arunD_goT rfl rfl fun K9 h9 => ?_ | (refine arun_go ?_ ?_; (focus (simp ; done)); intro K9 h9) | ((first | refine arunD_gF rfl ?_ ?_ | refine arunD_gT rfl ?_ ?_); (focus (simp ; done)); intro K9 h9)); simp (disch := (first | (simp; done) | omega | (simp; omega))) ; (try simp (disch := (first | omega | (simp; omega))) only [wrap_i64, wrap_u8, wrap_u32, wrap_u64, Int.tmod_eq_emod_of_nonneg, Int.tdiv_eq_ediv_of_nonneg]); (repeat (refine And.intro (by first | omega | (simp; first | done | omega) | assumption | (intro e9; have e8 := congrArg List.length e9; first | (simp at e8; done) | ((try simp only [List.length_map, List.length_append] at e8); rw [List.length_nil] at e8; omega))) ?_)); (first | refine h9 _ _ (arun_slots (by first | (dsimp only [sput, sset]; done) | rfl) ?_) | refine h9 _ _ (arunD_slots' (by first | (dsimp only [sput, sset]; done) | rfl) (by first | (dsimp only [List.tail]; done) | rfl) ?_)); clear h9 K9)
        | (refine arun_end ?_)
        | (refine arunD_end ?_)
        | (refine awp_seq fun K hK => ?_)
        | (refine awp_region ?_)
        | (refine hK _ _ ?_; clear hK K)
        | ((first | refine awp_region_draw' (m := 0) (by decide +kernel) [] (by kernel_rfl) (by decide +kernel) ?_); dsimp only [List.replicate, List.append_nil, List.cons_append, List.nil_append, List.length_cons, List.length_nil])
        | (refine awp_block ?_)
        | (refine awp_cond rfl (fun hcnd => ?_) (fun hcnd => ?_) <;> (try simp at hcnd) <;> (try contradiction) <;> (try (exfalso; omega)))
        | (refine awp_skip ?_)
        | (refine awp_exit ?_; simp only [athen_normal, athen_exit, athen_ret, ablock_self, ablock_ne, ablock_normal, ablock_ret, Nat.reduceBEq])
        | (refine awp_ret ?_; refine ret_go ?_)
        | (refine arun_no ?_ ?_; (focus (simp ; done)); refine arun_slots (by first | (dsimp only [sput, sset]; done) | rfl) ?_)
        | ((first | refine arunD_nF rfl ?_ ?_ | refine arunD_nT rfl ?_ ?_); (focus (simp ; done)); refine arunD_slots' (by first | (dsimp only [sput, sset]; done) | rfl) (by first | (dsimp only [List.tail]; done) | rfl) ?_)
        | (refine fall_go ?_)
        | (simp only [athen_normal, athen_exit, athen_ret, ablock_self, ablock_ne, ablock_normal, ablock_ret, Nat.reduceBEq])
        | (clear hK K; refine hK _ _ ?_; clear hK K)
        | (clear hK K; clear hK K; refine hK _ _ ?_; clear hK K)
        | (clear hK K; clear hK K; clear hK K; refine hK _ _ ?_; clear hK K)
        | (clear hK K; clear hK K; clear hK K; clear hK K; refine hK _ _ ?_; clear hK K)
        | (clear hK K; clear hK K; clear hK K; clear hK K; clear hK K; refine hK _ _ ?_; clear hK K))
      refine hK1 _ _ ?_
      clear hK1 hL n1
      unfold nmV
      generalize rdnsS l a1 i = p at *
      obtain ⟨nm, b⟩ := p
      dsimp only at *
      have htl : (nm.map atsV).length = i := by simpa using hlen
      rw [hlen]
      generalize nm.map atsV = cn at *
      refine awp_freeze' 3 rfl hpn (by simp [fz, ← htl]; rfl) (by simp [fzRow, fz, ← htl, fz_map (dk_pures _ _)]; rfl) ?_
      repeat' (first
        | ((first | refine arun_go0 rfl fun K9 h9 => ?_ | refine arunD_goF rfl rfl fun K9 h9 => ?_ | refine arunD_goT rfl rfl fun K9 h9 => ?_ | (refine arun_go ?_ ?_; (focus (simp ; done)); intro K9 h9) | ((first | refine arunD_gF rfl ?_ ?_ | refine arunD_gT rfl ?_ ?_); (focus (simp ; done)); intro K9 h9)); simp (disch := (first | (simp; done) | omega | (simp; omega))) ; (try simp (disch := (first | omega | (simp; omega))) only [wrap_i64, wrap_u8, wrap_u32, wrap_u64, Int.tmod_eq_emod_of_nonneg, Int.tdiv_eq_ediv_of_nonneg]); (repeat (refine And.intro (by first | omega | (simp; first | done | omega) | assumption | (intro e9; have e8 := congrArg List.length e9; first | (simp at e8; done) | ((try simp only [List.length_map, List.length_append] at e8); rw [List.length_nil] at e8; omega))) ?_)); (first | refine h9 _ _ (arun_slots (by first | (dsimp only [sput, sset]; done) | rfl) ?_) | refine h9 _ _ (arunD_slots' (by first | (dsimp only [sput, sset]; done) | rfl) (by first | (dsimp only [List.tail]; done) | rfl) ?_)); clear h9 K9)
        | (refine arun_end ?_)
        | (refine arunD_end ?_)
        | (refine awp_seq fun K hK => ?_)
        | (refine awp_region ?_)
        | (refine hK _ _ ?_; clear hK K)
        | ((first | refine awp_region_draw' (m := 0) (by decide +kernel) [] (by kernel_rfl) (by decide +kernel) ?_); dsimp only [List.replicate, List.append_nil, List.cons_append, List.nil_append, List.length_cons, List.length_nil])
        | (refine awp_block ?_)
        | (refine awp_cond rfl (fun hcnd => ?_) (fun hcnd => ?_) <;> (try simp at hcnd) <;> (try contradiction) <;> (try (exfalso; omega)))
        | (refine awp_skip ?_)
        | (refine awp_exit ?_; simp only [athen_normal, athen_exit, athen_ret, ablock_self, ablock_ne, ablock_normal, ablock_ret, Nat.reduceBEq])
        | (refine awp_ret ?_; refine ret_go ?_)
        | (refine arun_no ?_ ?_; (focus (simp ; done)); refine arun_slots (by first | (dsimp only [sput, sset]; done) | rfl) ?_)
        | ((first | refine arunD_nF rfl ?_ ?_ | refine arunD_nT rfl ?_ ?_); (focus (simp ; done)); refine arunD_slots' (by first | (dsimp only [sput, sset]; done) | rfl) (by first | (dsimp only [List.tail]; done) | rfl) ?_)
        | (refine fall_go ?_)
        | (simp only [athen_normal, athen_exit, athen_ret, ablock_self, ablock_ne, ablock_normal, ablock_ret, Nat.reduceBEq])
        | (clear hK K; refine hK _ _ ?_; clear hK K)
        | (clear hK K; clear hK K; refine hK _ _ ?_; clear hK K)
        | (clear hK K; clear hK K; clear hK K; refine hK _ _ ?_; clear hK K)
        | (clear hK K; clear hK K; clear hK K; clear hK K; refine hK _ _ ?_; clear hK K)
        | (clear hK K; clear hK K; clear hK K; clear hK K; clear hK K; refine hK _ _ ?_; clear hK K))
      simp
      exact ⟨htl, mend_plain⟩
  · simp
  · exact dk_pures _ _
end Go.Proofs.Ytjlifjmjnhdcmaa
