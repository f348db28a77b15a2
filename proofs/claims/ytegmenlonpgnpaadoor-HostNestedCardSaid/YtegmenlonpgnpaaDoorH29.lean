/-
  HOST: HostNested.
  Conditions: none.
-/
import Derived.Test.YtegmenlonpgnpaaDoorH28
import Derived.Test.YtegmenlonpgnpaaDoorH16
import Derived.Test.YtegmenlonpgnpaaDoorH20
namespace Go.Proofs.YtegmenlonpgnpaaDoor
open Go.VS Go.Hst
set_option linter.all false
attribute [local irreducible] arun arunD arunU AWp aend

set_option maxHeartbeats 16000000 in
theorem hostNested_call (l m n a b : List UInt8) (c d : UInt8) (hl : l.length ≤ 140737488355328) (hm : m.length ≤ 140737488355328) (hn : n.length ≤ 140737488355328) (ha : a.length ≤ 140737488355328) (hb : b.length ≤ 140737488355328) :
    PCall Tryd.prog 9 [.sl l.length (l.map byteV), .sl m.length (m.map byteV), .sl n.length (n.map byteV), .sl a.length (a.map byteV), .sl b.length (b.map byteV), byteV c, byteV d] (.bool true) := by
  refine pcall_body Tryd.func9 rfl Tryd.call9 ?_ ?_
  rotate_left 1
  refine awp_slots (s' := ((.sl l.length (l.map byteV) : V) :: (.sl m.length (m.map byteV) : V) :: (.sl n.length (n.map byteV) : V) :: (.sl a.length (a.map byteV) : V) :: (.sl b.length (b.map byteV) : V) :: (byteV c : V) :: (byteV d : V) :: V.junk :: V.junk :: V.junk :: V.junk :: V.junk :: V.junk :: V.junk :: V.junk :: V.junk :: V.junk :: V.junk :: V.junk :: V.junk :: V.junk :: V.junk :: V.junk :: V.junk :: V.junk :: V.junk :: V.junk :: V.junk :: V.junk :: V.junk :: V.junk :: V.junk :: V.junk :: V.junk :: V.junk :: V.junk :: V.junk :: V.junk :: V.junk :: V.junk :: V.junk :: V.junk :: V.junk :: V.junk :: V.junk :: V.junk :: V.junk :: V.junk :: V.junk :: V.junk :: V.junk :: V.junk :: V.junk :: V.junk :: V.junk :: V.junk :: V.junk :: V.junk :: V.junk :: V.junk :: V.junk :: V.junk :: V.junk :: V.junk :: V.junk :: V.junk :: V.junk :: V.junk :: V.junk :: V.junk :: V.junk :: V.junk :: V.junk :: V.junk :: V.junk :: V.junk :: V.junk :: V.junk :: V.junk :: V.junk :: V.junk :: V.junk :: V.junk :: V.junk :: V.junk :: V.junk :: V.junk :: V.junk :: V.junk :: V.junk :: V.junk :: V.junk :: V.junk :: V.junk :: V.junk :: V.junk :: V.junk :: V.junk :: V.junk :: V.junk :: V.junk :: V.junk :: V.junk :: V.junk :: V.junk :: V.junk :: V.junk :: V.junk :: V.junk :: V.junk :: V.junk :: V.junk :: V.junk :: V.junk :: V.junk :: V.junk :: V.junk :: V.junk :: V.junk :: V.junk :: V.junk :: V.junk :: V.junk :: V.junk :: V.junk :: V.junk :: V.junk :: V.junk :: V.junk :: V.junk :: V.junk :: V.junk :: V.junk :: V.junk :: V.junk :: V.junk :: V.junk :: V.junk :: V.junk :: V.junk :: V.junk :: V.junk :: V.junk :: V.junk :: V.junk :: V.junk :: V.junk :: V.junk :: V.junk :: V.junk :: V.junk :: V.junk :: V.junk :: V.junk :: V.junk :: [])) rfl ?_
  by_cases g1 : (16 : Int) < a.length
  · repeat' (first
    | ((first | refine arunU_go0 rfl fun K9 h9 => ?_ | (refine arunU_go ?_ ?_; (focus (simp [g1]; done)); intro K9 h9)); simp (disch := (first | (simp; done) | omega | (simp; omega))) [g1]; (try simp (disch := (first | omega | (simp; omega))) only [wrap_i64, wrap_u8, wrap_u32, wrap_u64, Int.tmod_eq_emod_of_nonneg, Int.tdiv_eq_ediv_of_nonneg]); (first | refine acall_pure (awake_call) (by simp) ?_ | skip); (repeat (refine And.intro (by first | omega | (simp; first | done | omega) | assumption | (intro e9; have e8 := congrArg List.length e9; first | (simp at e8; done) | ((try simp only [List.length_map, List.length_append] at e8); rw [List.length_nil] at e8; omega))) ?_)); (first | refine h9 _ _ (arunU_slots (by first | (dsimp only [sput, sset]; done) | rfl) ?_)); clear h9 K9)
    | (refine arunU_end ?_)
    | (refine awp_seq fun K hK => ?_)
    | (refine awp_regionU ?_)
    | (refine hK _ _ ?_; clear hK K)
    | (refine awp_block ?_)
    | (refine awp_cond rfl (fun hcnd => ?_) (fun hcnd => ?_) <;> (try simp at hcnd) <;> (try contradiction) <;> (try (exfalso; omega)))
    | (refine awp_skip ?_)
    | (refine awp_exit ?_; simp only [athen_normal, athen_exit, athen_ret, ablock_self, ablock_ne, ablock_normal, ablock_ret, Nat.reduceBEq])
    | (refine awp_ret ?_; refine ret_go ?_)
    | (refine arunU_no ?_ ?_; (focus (simp [g1]; done)); refine arunU_slots (by first | (dsimp only [sput, sset]; done) | rfl) ?_)
    | (refine fall_go ?_)
    | (simp only [athen_normal, athen_exit, athen_ret, ablock_self, ablock_ne, ablock_normal, ablock_ret, Nat.reduceBEq])
    | (clear hK K; refine hK _ _ ?_; clear hK K)
    | (clear hK K; clear hK K; refine hK _ _ ?_; clear hK K)
    | (clear hK K; clear hK K; clear hK K; refine hK _ _ ?_; clear hK K)
    | (clear hK K; clear hK K; clear hK K; clear hK K; refine hK _ _ ?_; clear hK K)
    | (clear hK K; clear hK K; clear hK K; clear hK K; clear hK K; refine hK _ _ ?_; clear hK K))
    exact .pure .bool
  by_cases g2 : (16 : Int) < b.length
  · repeat' (first
    | ((first | refine arunU_go0 rfl fun K9 h9 => ?_ | (refine arunU_go ?_ ?_; (focus (simp [g1, g2]; done)); intro K9 h9)); simp (disch := (first | (simp; done) | omega | (simp; omega))) [g1, g2]; (try simp (disch := (first | omega | (simp; omega))) only [wrap_i64, wrap_u8, wrap_u32, wrap_u64, Int.tmod_eq_emod_of_nonneg, Int.tdiv_eq_ediv_of_nonneg]); (first | refine acall_pure (awake_call) (by simp) ?_ | skip); (repeat (refine And.intro (by first | omega | (simp; first | done | omega) | assumption | (intro e9; have e8 := congrArg List.length e9; first | (simp at e8; done) | ((try simp only [List.length_map, List.length_append] at e8); rw [List.length_nil] at e8; omega))) ?_)); (first | refine h9 _ _ (arunU_slots (by first | (dsimp only [sput, sset]; done) | rfl) ?_)); clear h9 K9)
    | (refine arunU_end ?_)
    | (refine awp_seq fun K hK => ?_)
    | (refine awp_regionU ?_)
    | (refine hK _ _ ?_; clear hK K)
    | (refine awp_block ?_)
    | (refine awp_cond rfl (fun hcnd => ?_) (fun hcnd => ?_) <;> (try simp at hcnd) <;> (try contradiction) <;> (try (exfalso; omega)))
    | (refine awp_skip ?_)
    | (refine awp_exit ?_; simp only [athen_normal, athen_exit, athen_ret, ablock_self, ablock_ne, ablock_normal, ablock_ret, Nat.reduceBEq])
    | (refine awp_ret ?_; refine ret_go ?_)
    | (refine arunU_no ?_ ?_; (focus (simp [g1, g2]; done)); refine arunU_slots (by first | (dsimp only [sput, sset]; done) | rfl) ?_)
    | (refine fall_go ?_)
    | (simp only [athen_normal, athen_exit, athen_ret, ablock_self, ablock_ne, ablock_normal, ablock_ret, Nat.reduceBEq])
    | (clear hK K; refine hK _ _ ?_; clear hK K)
    | (clear hK K; clear hK K; refine hK _ _ ?_; clear hK K)
    | (clear hK K; clear hK K; clear hK K; refine hK _ _ ?_; clear hK K)
    | (clear hK K; clear hK K; clear hK K; clear hK K; refine hK _ _ ?_; clear hK K)
    | (clear hK K; clear hK K; clear hK K; clear hK K; clear hK K; refine hK _ _ ?_; clear hK K))
    exact .pure .bool
  have q1 := dns2_call l hl
  have q2 := dns2_call m hm
  have q3 := dns2_call n hn
  have w1 := dnsR_len l
  have w2 := dnsR_len m
  have w3 := dnsR_len n
  have n1 := network_call a c false ha
  have n2 := network_call a d false ha
  have n3 := network_call b d false hb
  simp only [Bool.false_eq_true, if_false] at n1 n2 n3
  generalize dnsR l = s at *
  generalize dnsR m = x at *
  generalize dnsR n = y at *
  generalize c.toNat % 33 = k1 at *
  generalize d.toNat % 33 = k2 at *
  have hul := net_length a k1 4
  have hvl := net_length a k2 4
  have hwl := net_length b k2 4
  have t1 := net_two a k1 k2 4 (.inl rfl)
  have t2 := net_third a b k1 k2
  generalize netS a k1 4 = u at *
  generalize netS a k2 4 = v at *
  generalize netS b k2 4 = w at *
  iterate 34 (first
    | ((first | refine arun_go0 rfl fun K9 h9 => ?_ | (refine arun_go ?_ ?_; (focus (simp [g1, g2]; done)); intro K9 h9)); simp (disch := (first | (simp; done) | omega | (simp; omega))) [g1, g2]; (try simp (disch := (first | omega | (simp; omega))) only [wrap_i64, wrap_u8, wrap_u32, wrap_u64, Int.tmod_eq_emod_of_nonneg, Int.tdiv_eq_ediv_of_nonneg]); (first | refine acall_pure (q1) (by simp) ?_ | refine acall_pure (q2) (by simp) ?_ | refine acall_pure (q3) (by simp) ?_ | skip); (repeat (refine And.intro (by first | omega | (simp; first | done | omega) | assumption | (intro e9; have e8 := congrArg List.length e9; first | (simp at e8; done) | ((try simp only [List.length_map, List.length_append] at e8); rw [List.length_nil] at e8; omega))) ?_)); (first | refine h9 _ _ (arun_slots (by first | (dsimp only [sput, sset]; done) | rfl) ?_)); clear h9 K9)
    | (refine arun_end ?_)
    | (refine awp_seq fun K hK => ?_)
    | (refine awp_region ?_)
    | (refine hK _ _ ?_; clear hK K)
    | (refine awp_block ?_)
    | (refine awp_cond rfl (fun hcnd => ?_) (fun hcnd => ?_) <;> (try simp at hcnd) <;> (try contradiction) <;> (try (exfalso; omega)))
    | (refine awp_skip ?_)
    | (refine awp_exit ?_; simp only [athen_normal, athen_exit, athen_ret, ablock_self, ablock_ne, ablock_normal, ablock_ret, Nat.reduceBEq])
    | (refine awp_ret ?_; refine ret_go ?_)
    | (refine arun_no ?_ ?_; (focus (simp [g1, g2]; done)); refine arun_slots (by first | (dsimp only [sput, sset]; done) | rfl) ?_)
    | (refine fall_go ?_)
    | (simp only [athen_normal, athen_exit, athen_ret, ablock_self, ablock_ne, ablock_normal, ablock_ret, Nat.reduceBEq])
    | (clear hK K; refine hK _ _ ?_; clear hK K)
    | (clear hK K; clear hK K; refine hK _ _ ?_; clear hK K)
    | (clear hK K; clear hK K; clear hK K; refine hK _ _ ?_; clear hK K)
    | (clear hK K; clear hK K; clear hK K; clear hK K; refine hK _ _ ?_; clear hK K)
    | (clear hK K; clear hK K; clear hK K; clear hK K; clear hK K; refine hK _ _ ?_; clear hK K))
  refine awp_seq' fun K hK hle => ?_
  have main : K (((V.sl l.length (l.map byteV)) :: (V.sl m.length (m.map byteV)) :: (V.sl n.length (n.map byteV)) :: (V.sl a.length (a.map byteV)) :: (V.sl b.length (b.map byteV)) :: (byteV c) :: (byteV d) :: V.junk :: V.junk :: V.junk :: V.junk :: V.junk :: V.junk :: V.junk :: V.junk :: (V.str s) :: (V.str x) :: (V.str y) :: V.junk :: V.junk :: V.junk :: V.junk :: V.junk :: V.junk :: V.junk :: V.junk :: V.junk :: V.junk :: V.junk :: V.junk :: V.junk :: V.junk :: V.junk :: V.junk :: V.junk :: V.junk :: V.junk :: V.junk :: V.junk :: V.junk :: V.junk :: V.junk :: V.junk :: V.junk :: V.junk :: V.junk :: V.junk :: V.junk :: V.junk :: V.junk :: V.junk :: V.junk :: V.junk :: V.junk :: V.junk :: V.junk :: V.junk :: V.junk :: V.junk :: V.junk :: V.junk :: V.junk :: V.junk :: V.junk :: V.junk :: V.junk :: V.junk :: V.junk :: V.junk :: V.junk :: V.junk :: V.junk :: V.junk :: V.junk :: V.junk :: V.junk :: V.junk :: V.junk :: V.junk :: V.junk :: V.junk :: V.junk :: V.junk :: V.junk :: V.junk :: V.junk :: V.junk :: V.junk :: V.junk :: V.junk :: V.junk :: V.junk :: V.junk :: V.junk :: V.junk :: V.junk :: V.junk :: V.junk :: V.junk :: V.junk :: V.junk :: V.junk :: V.junk :: V.junk :: V.junk :: V.junk :: V.junk :: V.junk :: V.junk :: V.junk :: V.junk :: V.junk :: V.junk :: V.junk :: V.junk :: V.junk :: V.junk :: V.junk :: V.junk :: V.junk :: V.junk :: V.junk :: V.junk :: V.junk :: V.junk :: V.junk :: V.junk :: V.junk :: V.junk :: V.junk :: V.junk :: V.junk :: V.junk :: V.junk :: V.junk :: V.junk :: V.junk :: V.junk :: V.junk :: V.junk :: V.junk :: V.junk :: V.junk :: V.junk :: V.junk :: V.junk :: V.junk :: V.junk :: V.junk :: V.junk :: V.junk :: V.junk :: V.junk :: V.junk :: V.junk :: [])) [] := by
    refine hK _ _ ?_
    clear hK hle K q1 q2 q3
    repeat' (first
    | ((first | refine arunU_go0 rfl fun K9 h9 => ?_ | (refine arunU_go ?_ ?_; (focus (simp ; done)); intro K9 h9)); simp (disch := (first | (simp; done) | omega | (simp; omega))) ; (try simp (disch := (first | omega | (simp; omega))) only [wrap_i64, wrap_u8, wrap_u32, wrap_u64, Int.tmod_eq_emod_of_nonneg, Int.tdiv_eq_ediv_of_nonneg]); (repeat (refine And.intro (by first | omega | (simp; first | done | omega) | assumption | (intro e9; have e8 := congrArg List.length e9; first | (simp at e8; done) | ((try simp only [List.length_map, List.length_append] at e8); rw [List.length_nil] at e8; omega))) ?_)); (first | refine h9 _ _ (arunU_slots (by first | (dsimp only [sput, sset]; done) | rfl) ?_)); clear h9 K9)
    | (refine arunU_end ?_)
    | (refine awp_seq fun K hK => ?_)
    | (refine awp_regionU ?_)
    | (refine hK _ _ ?_; clear hK K)
    | (refine awp_block ?_)
    | (refine awp_cond rfl (fun hcnd => ?_) (fun hcnd => ?_) <;> (try simp at hcnd) <;> (try contradiction) <;> (try (exfalso; omega)))
    | (refine awp_skip ?_)
    | (refine awp_exit ?_; simp only [athen_normal, athen_exit, athen_ret, ablock_self, ablock_ne, ablock_normal, ablock_ret, Nat.reduceBEq])
    | (refine awp_ret ?_; refine ret_go ?_)
    | (refine arunU_no ?_ ?_; (focus (simp ; done)); refine arunU_slots (by first | (dsimp only [sput, sset]; done) | rfl) ?_)
    | (refine fall_go ?_)
    | (simp only [athen_normal, athen_exit, athen_ret, ablock_self, ablock_ne, ablock_normal, ablock_ret, Nat.reduceBEq])
    | (clear hK K; refine hK _ _ ?_; clear hK K)
    | (clear hK K; clear hK K; refine hK _ _ ?_; clear hK K)
    | (clear hK K; clear hK K; clear hK K; refine hK _ _ ?_; clear hK K)
    | (clear hK K; clear hK K; clear hK K; clear hK K; refine hK _ _ ?_; clear hK K)
    | (clear hK K; clear hK K; clear hK K; clear hK K; clear hK K; refine hK _ _ ?_; clear hK K))
    obtain ⟨L, hL3⟩ : ∃ L : List (List UInt8 × List UInt8), L = [(x, y), (46 :: x, y), (x, 46 :: y), (46 :: x, 46 :: y), (97 :: 110 :: 110 :: 64 :: x, 46 :: y), (97 :: 110 :: 110 :: 64 :: x, y)] := ⟨_, rfl⟩
    have hLl : L.length = 6 := by simp [hL3]
    have hLm : ∀ p ∈ L, p.1.length ≤ 900000 ∧ p.2.length ≤ 900000 := by
      intro p hx
      simp [hL3] at hx
      rcases hx with rfl | rfl | rfl | rfl | rfl | rfl <;> (refine ⟨?_, ?_⟩ <;> first | omega | (simp; done) | (simp; omega))
    have hcl := pairC_length L
    have hcp := pairC_pures L
    refine awp_countU (fun i => (some V.junk :: some V.junk :: some V.junk :: none :: none :: none :: none :: none :: none :: none :: none :: none :: none :: none :: some V.junk :: none :: some V.junk :: some V.junk :: none :: some V.junk :: some V.junk :: some V.junk :: some V.junk :: some V.junk :: some V.junk :: some V.junk :: some V.junk :: some V.junk :: some V.junk :: some V.junk :: some V.junk :: some V.junk :: some V.junk :: some V.junk :: some V.junk :: some V.junk :: some V.junk :: some V.junk :: some V.junk :: some V.junk :: some V.junk :: some V.junk :: some V.junk :: some V.junk :: some V.junk :: some V.junk :: some V.junk :: some V.junk :: some V.junk :: some V.junk :: some V.junk :: some V.junk :: some V.junk :: some V.junk :: some V.junk :: some V.junk :: some V.junk :: some V.junk :: some V.junk :: some V.junk :: some V.junk :: some V.junk :: some V.junk :: some V.junk :: some V.junk :: some V.junk :: some V.junk :: some V.junk :: some V.junk :: some V.junk :: some V.junk :: some V.junk :: some V.junk :: some V.junk :: some V.junk :: some V.junk :: some V.junk :: some V.junk :: some V.junk :: some V.junk :: some V.junk :: some V.junk :: some V.junk :: some (V.osl 0 0 6 2) :: none :: some (V.int .i64 i) :: some V.junk :: some V.junk :: some V.junk :: some V.junk :: some V.junk :: some V.junk :: some V.junk :: some V.junk :: some V.junk :: some V.junk :: some V.junk :: some V.junk :: some V.junk :: some V.junk :: some V.junk :: some V.junk :: some V.junk :: some V.junk :: some V.junk :: some V.junk :: some V.junk :: some V.junk :: some V.junk :: some V.junk :: some V.junk :: some V.junk :: some V.junk :: some V.junk :: some V.junk :: some V.junk :: some V.junk :: some V.junk :: some V.junk :: some V.junk :: some V.junk :: some V.junk :: some V.junk :: some V.junk :: some V.junk :: some V.junk :: some V.junk :: some V.junk :: some V.junk :: some V.junk :: some V.junk :: some V.junk :: some V.junk :: some V.junk :: some V.junk :: some V.junk :: some V.junk :: some V.junk :: some V.junk :: some V.junk :: some V.junk :: some V.junk :: some V.junk :: some V.junk :: some V.junk :: some V.junk :: some V.junk :: some V.junk :: some V.junk :: some V.junk :: some V.junk :: some V.junk :: some V.junk :: some V.junk :: some V.junk :: [])) (fun i => [.live (pairC L)]) 6 ?_ fun i hi KL hL => ?_
    · dsimp only [ups_some, ups_none, ups_nil, ups_nil']
      exact Le.mk [some 0] (by simp) (rowsRen_of (by simp) (by simp [rowsOver, hL3, pairC])) (by simp)
    dsimp only [ups_some, ups_none, ups_nil, ups_nil']
    rcases Nat.lt_or_ge i 6 with hi | hi
    · have hiL : i < L.length := by omega
      have hx := hLm L[i] (List.getElem_mem _)
      have hat := pairC_at L i hiL
      obtain ⟨p, hX⟩ : ∃ x, L[i].1 = x := ⟨_, rfl⟩
      obtain ⟨q, hY⟩ : ∃ x, L[i].2 = x := ⟨_, rfl⟩
      rw [hX, hY] at hx hat
      obtain ⟨hx1, hx2⟩ := hx
      generalize pairC L = C at *
      have hcl2 : C.length = 12 := by omega
      have hne : C ≠ [] := fun e => by rw [e] at hcl2; simp at hcl2
      have c1 := mwithin_call (97 :: 110 :: 110 :: 64 :: s) p (by simp; omega) (by omega)
      have c2 := mwithin_call (97 :: 110 :: 110 :: 64 :: s) q (by simp; omega) (by omega)
      have c3 := mwithin_call p q (by omega) (by omega)
      have c4 := mwithin_call q p (by omega) (by omega)
      have nest := @mwithin_nest (97 :: 110 :: 110 :: 64 :: s) p q (by simp)
      clear hL3 hLm t1 t2
      cases e1 : mwithinB (97 :: 110 :: 110 :: 64 :: s) p <;> rw [e1] at c1
      · repeat' (first
    | ((first | refine arunU_go0 rfl fun K9 h9 => ?_ | (refine arunU_go ?_ ?_; (focus (simp [hLl, hcl2, hat, hne]; done)); intro K9 h9)); simp (disch := (first | (simp; done) | omega | (simp; omega))) [hLl, hcl2, hat, hne]; (try simp (disch := (first | omega | (simp; omega))) only [wrap_i64, wrap_u8, wrap_u32, wrap_u64, Int.tmod_eq_emod_of_nonneg, Int.tdiv_eq_ediv_of_nonneg]); (first | refine acall_pure (c1) (by simp) ?_ | skip); (repeat (refine And.intro (by first | omega | (simp; first | done | omega) | assumption | (intro e9; have e8 := congrArg List.length e9; first | (simp at e8; done) | ((try simp only [List.length_map, List.length_append] at e8); rw [List.length_nil] at e8; omega))) ?_)); (first | refine h9 _ _ (arunU_slots (by first | (dsimp only [sput, sset]; done) | rfl) ?_)); clear h9 K9)
    | (refine arunU_end ?_)
    | (refine awp_seq fun K hK => ?_)
    | (refine awp_regionU ?_)
    | (refine hK _ _ ?_; clear hK K)
    | (refine awp_block ?_)
    | (refine awp_cond rfl (fun hcnd => ?_) (fun hcnd => ?_) <;> (try simp at hcnd) <;> (try contradiction) <;> (try (exfalso; omega)))
    | (refine awp_skip ?_)
    | (refine awp_exit ?_; simp only [athen_normal, athen_exit, athen_ret, ablock_self, ablock_ne, ablock_normal, ablock_ret, Nat.reduceBEq])
    | (refine awp_ret ?_; refine ret_go ?_)
    | (refine arunU_no ?_ ?_; (focus (simp [hLl, hcl2, hat, hne]; done)); refine arunU_slots (by first | (dsimp only [sput, sset]; done) | rfl) ?_)
    | (refine fall_go ?_)
    | (simp only [athen_normal, athen_exit, athen_ret, ablock_self, ablock_ne, ablock_normal, ablock_ret, Nat.reduceBEq])
    | (clear hK K; refine hK _ _ ?_; clear hK K)
    | (clear hK K; clear hK K; refine hK _ _ ?_; clear hK K)
    | (clear hK K; clear hK K; clear hK K; refine hK _ _ ?_; clear hK K)
    | (clear hK K; clear hK K; clear hK K; clear hK K; refine hK _ _ ?_; clear hK K)
    | (clear hK K; clear hK K; clear hK K; clear hK K; clear hK K; refine hK _ _ ?_; clear hK K))
        refine hL _ _ hi ?_
        exact Le.mk [some 0] (by dsimp only [ups_some, ups_none, ups_nil, ups_nil']; simp) (rowsRen_of (by simp) (by simp [rowsOver, hcp])) (by simp)
      cases e2 : mwithinB (97 :: 110 :: 110 :: 64 :: s) q <;> rw [e2] at c2
      · repeat' (first
    | ((first | refine arunU_go0 rfl fun K9 h9 => ?_ | (refine arunU_go ?_ ?_; (focus (simp [hLl, hcl2, hat, hne]; done)); intro K9 h9)); simp (disch := (first | (simp; done) | omega | (simp; omega))) [hLl, hcl2, hat, hne]; (try simp (disch := (first | omega | (simp; omega))) only [wrap_i64, wrap_u8, wrap_u32, wrap_u64, Int.tmod_eq_emod_of_nonneg, Int.tdiv_eq_ediv_of_nonneg]); (first | refine acall_pure (c1) (by simp) ?_ | refine acall_pure (c2) (by simp) ?_ | skip); (repeat (refine And.intro (by first | omega | (simp; first | done | omega) | assumption | (intro e9; have e8 := congrArg List.length e9; first | (simp at e8; done) | ((try simp only [List.length_map, List.length_append] at e8); rw [List.length_nil] at e8; omega))) ?_)); (first | refine h9 _ _ (arunU_slots (by first | (dsimp only [sput, sset]; done) | rfl) ?_)); clear h9 K9)
    | (refine arunU_end ?_)
    | (refine awp_seq fun K hK => ?_)
    | (refine awp_regionU ?_)
    | (refine hK _ _ ?_; clear hK K)
    | (refine awp_block ?_)
    | (refine awp_cond rfl (fun hcnd => ?_) (fun hcnd => ?_) <;> (try simp at hcnd) <;> (try contradiction) <;> (try (exfalso; omega)))
    | (refine awp_skip ?_)
    | (refine awp_exit ?_; simp only [athen_normal, athen_exit, athen_ret, ablock_self, ablock_ne, ablock_normal, ablock_ret, Nat.reduceBEq])
    | (refine awp_ret ?_; refine ret_go ?_)
    | (refine arunU_no ?_ ?_; (focus (simp [hLl, hcl2, hat, hne]; done)); refine arunU_slots (by first | (dsimp only [sput, sset]; done) | rfl) ?_)
    | (refine fall_go ?_)
    | (simp only [athen_normal, athen_exit, athen_ret, ablock_self, ablock_ne, ablock_normal, ablock_ret, Nat.reduceBEq])
    | (clear hK K; refine hK _ _ ?_; clear hK K)
    | (clear hK K; clear hK K; refine hK _ _ ?_; clear hK K)
    | (clear hK K; clear hK K; clear hK K; refine hK _ _ ?_; clear hK K)
    | (clear hK K; clear hK K; clear hK K; clear hK K; refine hK _ _ ?_; clear hK K)
    | (clear hK K; clear hK K; clear hK K; clear hK K; clear hK K; refine hK _ _ ?_; clear hK K))
        refine hL _ _ hi ?_
        exact Le.mk [some 0] (by dsimp only [ups_some, ups_none, ups_nil, ups_nil']; simp) (rowsRen_of (by simp) (by simp [rowsOver, hcp])) (by simp)
      have nest := nest e1 e2
      cases e3 : mwithinB p q <;> rw [e3] at c3 nest
      · have nest := nest.resolve_left (by simp)
        rw [nest] at c4
        repeat' (first
    | ((first | refine arunU_go0 rfl fun K9 h9 => ?_ | (refine arunU_go ?_ ?_; (focus (simp [hLl, hcl2, hat, hne]; done)); intro K9 h9)); simp (disch := (first | (simp; done) | omega | (simp; omega))) [hLl, hcl2, hat, hne]; (try simp (disch := (first | omega | (simp; omega))) only [wrap_i64, wrap_u8, wrap_u32, wrap_u64, Int.tmod_eq_emod_of_nonneg, Int.tdiv_eq_ediv_of_nonneg]); (first | refine acall_pure (c1) (by simp) ?_ | refine acall_pure (c2) (by simp) ?_ | refine acall_pure (c3) (by simp) ?_ | refine acall_pure (c4) (by simp) ?_ | skip); (repeat (refine And.intro (by first | omega | (simp; first | done | omega) | assumption | (intro e9; have e8 := congrArg List.length e9; first | (simp at e8; done) | ((try simp only [List.length_map, List.length_append] at e8); rw [List.length_nil] at e8; omega))) ?_)); (first | refine h9 _ _ (arunU_slots (by first | (dsimp only [sput, sset]; done) | rfl) ?_)); clear h9 K9)
    | (refine arunU_end ?_)
    | (refine awp_seq fun K hK => ?_)
    | (refine awp_regionU ?_)
    | (refine hK _ _ ?_; clear hK K)
    | (refine awp_block ?_)
    | (refine awp_cond rfl (fun hcnd => ?_) (fun hcnd => ?_) <;> (try simp at hcnd) <;> (try contradiction) <;> (try (exfalso; omega)))
    | (refine awp_skip ?_)
    | (refine awp_exit ?_; simp only [athen_normal, athen_exit, athen_ret, ablock_self, ablock_ne, ablock_normal, ablock_ret, Nat.reduceBEq])
    | (refine awp_ret ?_; refine ret_go ?_)
    | (refine arunU_no ?_ ?_; (focus (simp [hLl, hcl2, hat, hne]; done)); refine arunU_slots (by first | (dsimp only [sput, sset]; done) | rfl) ?_)
    | (refine fall_go ?_)
    | (simp only [athen_normal, athen_exit, athen_ret, ablock_self, ablock_ne, ablock_normal, ablock_ret, Nat.reduceBEq])
    | (clear hK K; refine hK _ _ ?_; clear hK K)
    | (clear hK K; clear hK K; refine hK _ _ ?_; clear hK K)
    | (clear hK K; clear hK K; clear hK K; refine hK _ _ ?_; clear hK K)
    | (clear hK K; clear hK K; clear hK K; clear hK K; refine hK _ _ ?_; clear hK K)
    | (clear hK K; clear hK K; clear hK K; clear hK K; clear hK K; refine hK _ _ ?_; clear hK K))
        refine hL _ _ hi ?_
        exact Le.mk [some 0] (by dsimp only [ups_some, ups_none, ups_nil, ups_nil']; simp) (rowsRen_of (by simp) (by simp [rowsOver, hcp])) (by simp)
      · repeat' (first
    | ((first | refine arunU_go0 rfl fun K9 h9 => ?_ | (refine arunU_go ?_ ?_; (focus (simp [hLl, hcl2, hat, hne]; done)); intro K9 h9)); simp (disch := (first | (simp; done) | omega | (simp; omega))) [hLl, hcl2, hat, hne]; (try simp (disch := (first | omega | (simp; omega))) only [wrap_i64, wrap_u8, wrap_u32, wrap_u64, Int.tmod_eq_emod_of_nonneg, Int.tdiv_eq_ediv_of_nonneg]); (first | refine acall_pure (c1) (by simp) ?_ | refine acall_pure (c2) (by simp) ?_ | refine acall_pure (c3) (by simp) ?_ | skip); (repeat (refine And.intro (by first | omega | (simp; first | done | omega) | assumption | (intro e9; have e8 := congrArg List.length e9; first | (simp at e8; done) | ((try simp only [List.length_map, List.length_append] at e8); rw [List.length_nil] at e8; omega))) ?_)); (first | refine h9 _ _ (arunU_slots (by first | (dsimp only [sput, sset]; done) | rfl) ?_)); clear h9 K9)
    | (refine arunU_end ?_)
    | (refine awp_seq fun K hK => ?_)
    | (refine awp_regionU ?_)
    | (refine hK _ _ ?_; clear hK K)
    | (refine awp_block ?_)
    | (refine awp_cond rfl (fun hcnd => ?_) (fun hcnd => ?_) <;> (try simp at hcnd) <;> (try contradiction) <;> (try (exfalso; omega)))
    | (refine awp_skip ?_)
    | (refine awp_exit ?_; simp only [athen_normal, athen_exit, athen_ret, ablock_self, ablock_ne, ablock_normal, ablock_ret, Nat.reduceBEq])
    | (refine awp_ret ?_; refine ret_go ?_)
    | (refine arunU_no ?_ ?_; (focus (simp [hLl, hcl2, hat, hne]; done)); refine arunU_slots (by first | (dsimp only [sput, sset]; done) | rfl) ?_)
    | (refine fall_go ?_)
    | (simp only [athen_normal, athen_exit, athen_ret, ablock_self, ablock_ne, ablock_normal, ablock_ret, Nat.reduceBEq])
    | (clear hK K; refine hK _ _ ?_; clear hK K)
    | (clear hK K; clear hK K; refine hK _ _ ?_; clear hK K)
    | (clear hK K; clear hK K; clear hK K; refine hK _ _ ?_; clear hK K)
    | (clear hK K; clear hK K; clear hK K; clear hK K; refine hK _ _ ?_; clear hK K)
    | (clear hK K; clear hK K; clear hK K; clear hK K; clear hK K; refine hK _ _ ?_; clear hK K))
        refine hL _ _ hi ?_
        exact Le.mk [some 0] (by dsimp only [ups_some, ups_none, ups_nil, ups_nil']; simp) (rowsRen_of (by simp) (by simp [rowsOver, hcp])) (by simp)
    obtain rfl : i = 6 := by omega
    clear hL3 hLm
    have z1 := awithin_call u v (by omega) (by omega)
    have z2 := awithin_call v u (by omega) (by omega)
    have z3 := awithin_call (u.take 4) w (by simp; omega) (by omega)
    have z4 := awithin_call u w (by omega) (by omega)
    have z5 := awithin_call w u (by omega) (by omega)
    have n1' := n1
    have n2' := n2
    have n3' := n3
    simp only [byteV] at n1' n2' n3'
    have tail : ∀ (P1 : Prop), (awithinB u v = true → awithinB (u.take 4) w = false → P1) → (awithinB u v = true → awithinB (u.take 4) w = true → awithinB u w = true → P1) → (awithinB u v = true → awithinB (u.take 4) w = true → awithinB u w = false → awithinB w u = true → P1) →
        (awithinB u v = false → awithinB v u = true → awithinB (u.take 4) w = false → P1) → (awithinB u v = false → awithinB v u = true → awithinB (u.take 4) w = true → awithinB u w = true → P1) → (awithinB u v = false → awithinB v u = true → awithinB (u.take 4) w = true → awithinB u w = false → awithinB w u = true → P1) → P1 := by
      intro P1 f1 f2 f3 f4 f5 f6
      cases e1 : awithinB u v
      · have e2 := t1.resolve_left (by simp [e1])
        cases e3 : awithinB (u.take 4) w
        · exact f4 e1 e2 e3
        cases e4 : awithinB u w
        · exact f6 e1 e2 e3 e4 ((t2 e3).resolve_left (by simp [e4]))
        · exact f5 e1 e2 e3 e4
      · cases e3 : awithinB (u.take 4) w
        · exact f1 e1 e3
        cases e4 : awithinB u w
        · exact f3 e1 e3 e4 ((t2 e3).resolve_left (by simp [e4]))
        · exact f2 e1 e3 e4
    refine tail _ ?_ ?_ ?_ ?_ ?_ ?_
    · intro e1 e3
      rw [e1] at z1; rw [e3] at z3
      repeat' (first
    | ((first | refine arunU_go0 rfl fun K9 h9 => ?_ | (refine arunU_go ?_ ?_; (focus (simp [List.take_of_length_le, hul]; done)); intro K9 h9)); simp (disch := (first | (simp; done) | omega | (simp; omega))) [List.take_of_length_le, hul]; (try simp (disch := (first | omega | (simp; omega))) only [wrap_i64, wrap_u8, wrap_u32, wrap_u64, Int.tmod_eq_emod_of_nonneg, Int.tdiv_eq_ediv_of_nonneg]); (first | refine acall_pure (n1) (by simp) ?_ | refine acall_pure (n2) (by simp) ?_ | refine acall_pure (n3) (by simp) ?_ | refine acall_pure (n1') (by simp) ?_ | refine acall_pure (n2') (by simp) ?_ | refine acall_pure (n3') (by simp) ?_ | refine acall_pure (awake_call) (by simp) ?_ | refine acall_pure (z1) (by simp) ?_ | refine acall_pure (z2) (by simp) ?_ | refine acall_pure (z3) (by simp) ?_ | refine acall_pure (z4) (by simp) ?_ | refine acall_pure (z5) (by simp) ?_ | skip); (repeat (refine And.intro (by first | omega | (simp; first | done | omega) | assumption | (intro e9; have e8 := congrArg List.length e9; first | (simp at e8; done) | ((try simp only [List.length_map, List.length_append] at e8); rw [List.length_nil] at e8; omega))) ?_)); (first | refine h9 _ _ (arunU_slots (by first | (dsimp only [sput, sset]; done) | rfl) ?_)); clear h9 K9)
    | (refine arunU_end ?_)
    | (refine awp_seq fun K hK => ?_)
    | (refine awp_regionU ?_)
    | (refine hK _ _ ?_; clear hK K)
    | (refine awp_block ?_)
    | (refine awp_cond rfl (fun hcnd => ?_) (fun hcnd => ?_) <;> (try simp at hcnd) <;> (try contradiction) <;> (try (exfalso; omega)))
    | (refine awp_skip ?_)
    | (refine awp_exit ?_; simp only [athen_normal, athen_exit, athen_ret, ablock_self, ablock_ne, ablock_normal, ablock_ret, Nat.reduceBEq])
    | (refine awp_ret ?_; refine ret_go ?_)
    | (refine arunU_no ?_ ?_; (focus (simp [List.take_of_length_le, hul]; done)); refine arunU_slots (by first | (dsimp only [sput, sset]; done) | rfl) ?_)
    | (refine fall_go ?_)
    | (simp only [athen_normal, athen_exit, athen_ret, ablock_self, ablock_ne, ablock_normal, ablock_ret, Nat.reduceBEq])
    | (clear hK K; refine hK _ _ ?_; clear hK K)
    | (clear hK K; clear hK K; refine hK _ _ ?_; clear hK K)
    | (clear hK K; clear hK K; clear hK K; refine hK _ _ ?_; clear hK K)
    | (clear hK K; clear hK K; clear hK K; clear hK K; refine hK _ _ ?_; clear hK K)
    | (clear hK K; clear hK K; clear hK K; clear hK K; clear hK K; refine hK _ _ ?_; clear hK K))
      exact .pure .bool
    · intro e1 e3 e4
      rw [e1] at z1; rw [e3] at z3; rw [e4] at z4
      repeat' (first
    | ((first | refine arunU_go0 rfl fun K9 h9 => ?_ | (refine arunU_go ?_ ?_; (focus (simp [List.take_of_length_le, hul]; done)); intro K9 h9)); simp (disch := (first | (simp; done) | omega | (simp; omega))) [List.take_of_length_le, hul]; (try simp (disch := (first | omega | (simp; omega))) only [wrap_i64, wrap_u8, wrap_u32, wrap_u64, Int.tmod_eq_emod_of_nonneg, Int.tdiv_eq_ediv_of_nonneg]); (first | refine acall_pure (n1) (by simp) ?_ | refine acall_pure (n2) (by simp) ?_ | refine acall_pure (n3) (by simp) ?_ | refine acall_pure (n1') (by simp) ?_ | refine acall_pure (n2') (by simp) ?_ | refine acall_pure (n3') (by simp) ?_ | refine acall_pure (awake_call) (by simp) ?_ | refine acall_pure (z1) (by simp) ?_ | refine acall_pure (z2) (by simp) ?_ | refine acall_pure (z3) (by simp) ?_ | refine acall_pure (z4) (by simp) ?_ | refine acall_pure (z5) (by simp) ?_ | skip); (repeat (refine And.intro (by first | omega | (simp; first | done | omega) | assumption | (intro e9; have e8 := congrArg List.length e9; first | (simp at e8; done) | ((try simp only [List.length_map, List.length_append] at e8); rw [List.length_nil] at e8; omega))) ?_)); (first | refine h9 _ _ (arunU_slots (by first | (dsimp only [sput, sset]; done) | rfl) ?_)); clear h9 K9)
    | (refine arunU_end ?_)
    | (refine awp_seq fun K hK => ?_)
    | (refine awp_regionU ?_)
    | (refine hK _ _ ?_; clear hK K)
    | (refine awp_block ?_)
    | (refine awp_cond rfl (fun hcnd => ?_) (fun hcnd => ?_) <;> (try simp at hcnd) <;> (try contradiction) <;> (try (exfalso; omega)))
    | (refine awp_skip ?_)
    | (refine awp_exit ?_; simp only [athen_normal, athen_exit, athen_ret, ablock_self, ablock_ne, ablock_normal, ablock_ret, Nat.reduceBEq])
    | (refine awp_ret ?_; refine ret_go ?_)
    | (refine arunU_no ?_ ?_; (focus (simp [List.take_of_length_le, hul]; done)); refine arunU_slots (by first | (dsimp only [sput, sset]; done) | rfl) ?_)
    | (refine fall_go ?_)
    | (simp only [athen_normal, athen_exit, athen_ret, ablock_self, ablock_ne, ablock_normal, ablock_ret, Nat.reduceBEq])
    | (clear hK K; refine hK _ _ ?_; clear hK K)
    | (clear hK K; clear hK K; refine hK _ _ ?_; clear hK K)
    | (clear hK K; clear hK K; clear hK K; refine hK _ _ ?_; clear hK K)
    | (clear hK K; clear hK K; clear hK K; clear hK K; refine hK _ _ ?_; clear hK K)
    | (clear hK K; clear hK K; clear hK K; clear hK K; clear hK K; refine hK _ _ ?_; clear hK K))
      exact .pure .bool
    · intro e1 e3 e4 e5
      rw [e1] at z1; rw [e3] at z3; rw [e4] at z4; rw [e5] at z5
      repeat' (first
    | ((first | refine arunU_go0 rfl fun K9 h9 => ?_ | (refine arunU_go ?_ ?_; (focus (simp [List.take_of_length_le, hul]; done)); intro K9 h9)); simp (disch := (first | (simp; done) | omega | (simp; omega))) [List.take_of_length_le, hul]; (try simp (disch := (first | omega | (simp; omega))) only [wrap_i64, wrap_u8, wrap_u32, wrap_u64, Int.tmod_eq_emod_of_nonneg, Int.tdiv_eq_ediv_of_nonneg]); (first | refine acall_pure (n1) (by simp) ?_ | refine acall_pure (n2) (by simp) ?_ | refine acall_pure (n3) (by simp) ?_ | refine acall_pure (n1') (by simp) ?_ | refine acall_pure (n2') (by simp) ?_ | refine acall_pure (n3') (by simp) ?_ | refine acall_pure (awake_call) (by simp) ?_ | refine acall_pure (z1) (by simp) ?_ | refine acall_pure (z2) (by simp) ?_ | refine acall_pure (z3) (by simp) ?_ | refine acall_pure (z4) (by simp) ?_ | refine acall_pure (z5) (by simp) ?_ | skip); (repeat (refine And.intro (by first | omega | (simp; first | done | omega) | assumption | (intro e9; have e8 := congrArg List.length e9; first | (simp at e8; done) | ((try simp only [List.length_map, List.length_append] at e8); rw [List.length_nil] at e8; omega))) ?_)); (first | refine h9 _ _ (arunU_slots (by first | (dsimp only [sput, sset]; done) | rfl) ?_)); clear h9 K9)
    | (refine arunU_end ?_)
    | (refine awp_seq fun K hK => ?_)
    | (refine awp_regionU ?_)
    | (refine hK _ _ ?_; clear hK K)
    | (refine awp_block ?_)
    | (refine awp_cond rfl (fun hcnd => ?_) (fun hcnd => ?_) <;> (try simp at hcnd) <;> (try contradiction) <;> (try (exfalso; omega)))
    | (refine awp_skip ?_)
    | (refine awp_exit ?_; simp only [athen_normal, athen_exit, athen_ret, ablock_self, ablock_ne, ablock_normal, ablock_ret, Nat.reduceBEq])
    | (refine awp_ret ?_; refine ret_go ?_)
    | (refine arunU_no ?_ ?_; (focus (simp [List.take_of_length_le, hul]; done)); refine arunU_slots (by first | (dsimp only [sput, sset]; done) | rfl) ?_)
    | (refine fall_go ?_)
    | (simp only [athen_normal, athen_exit, athen_ret, ablock_self, ablock_ne, ablock_normal, ablock_ret, Nat.reduceBEq])
    | (clear hK K; refine hK _ _ ?_; clear hK K)
    | (clear hK K; clear hK K; refine hK _ _ ?_; clear hK K)
    | (clear hK K; clear hK K; clear hK K; refine hK _ _ ?_; clear hK K)
    | (clear hK K; clear hK K; clear hK K; clear hK K; refine hK _ _ ?_; clear hK K)
    | (clear hK K; clear hK K; clear hK K; clear hK K; clear hK K; refine hK _ _ ?_; clear hK K))
      exact .pure .bool
    · intro e1 e2 e3
      rw [e1] at z1; rw [e2] at z2; rw [e3] at z3
      repeat' (first
    | ((first | refine arunU_go0 rfl fun K9 h9 => ?_ | (refine arunU_go ?_ ?_; (focus (simp [List.take_of_length_le, hul]; done)); intro K9 h9)); simp (disch := (first | (simp; done) | omega | (simp; omega))) [List.take_of_length_le, hul]; (try simp (disch := (first | omega | (simp; omega))) only [wrap_i64, wrap_u8, wrap_u32, wrap_u64, Int.tmod_eq_emod_of_nonneg, Int.tdiv_eq_ediv_of_nonneg]); (first | refine acall_pure (n1) (by simp) ?_ | refine acall_pure (n2) (by simp) ?_ | refine acall_pure (n3) (by simp) ?_ | refine acall_pure (n1') (by simp) ?_ | refine acall_pure (n2') (by simp) ?_ | refine acall_pure (n3') (by simp) ?_ | refine acall_pure (awake_call) (by simp) ?_ | refine acall_pure (z1) (by simp) ?_ | refine acall_pure (z2) (by simp) ?_ | refine acall_pure (z3) (by simp) ?_ | refine acall_pure (z4) (by simp) ?_ | refine acall_pure (z5) (by simp) ?_ | skip); (repeat (refine And.intro (by first | omega | (simp; first | done | omega) | assumption | (intro e9; have e8 := congrArg List.length e9; first | (simp at e8; done) | ((try simp only [List.length_map, List.length_append] at e8); rw [List.length_nil] at e8; omega))) ?_)); (first | refine h9 _ _ (arunU_slots (by first | (dsimp only [sput, sset]; done) | rfl) ?_)); clear h9 K9)
    | (refine arunU_end ?_)
    | (refine awp_seq fun K hK => ?_)
    | (refine awp_regionU ?_)
    | (refine hK _ _ ?_; clear hK K)
    | (refine awp_block ?_)
    | (refine awp_cond rfl (fun hcnd => ?_) (fun hcnd => ?_) <;> (try simp at hcnd) <;> (try contradiction) <;> (try (exfalso; omega)))
    | (refine awp_skip ?_)
    | (refine awp_exit ?_; simp only [athen_normal, athen_exit, athen_ret, ablock_self, ablock_ne, ablock_normal, ablock_ret, Nat.reduceBEq])
    | (refine awp_ret ?_; refine ret_go ?_)
    | (refine arunU_no ?_ ?_; (focus (simp [List.take_of_length_le, hul]; done)); refine arunU_slots (by first | (dsimp only [sput, sset]; done) | rfl) ?_)
    | (refine fall_go ?_)
    | (simp only [athen_normal, athen_exit, athen_ret, ablock_self, ablock_ne, ablock_normal, ablock_ret, Nat.reduceBEq])
    | (clear hK K; refine hK _ _ ?_; clear hK K)
    | (clear hK K; clear hK K; refine hK _ _ ?_; clear hK K)
    | (clear hK K; clear hK K; clear hK K; refine hK _ _ ?_; clear hK K)
    | (clear hK K; clear hK K; clear hK K; clear hK K; refine hK _ _ ?_; clear hK K)
    | (clear hK K; clear hK K; clear hK K; clear hK K; clear hK K; refine hK _ _ ?_; clear hK K))
      exact .pure .bool
    · intro e1 e2 e3 e4
      rw [e1] at z1; rw [e2] at z2; rw [e3] at z3; rw [e4] at z4
      repeat' (first
    | ((first | refine arunU_go0 rfl fun K9 h9 => ?_ | (refine arunU_go ?_ ?_; (focus (simp [List.take_of_length_le, hul]; done)); intro K9 h9)); simp (disch := (first | (simp; done) | omega | (simp; omega))) [List.take_of_length_le, hul]; (try simp (disch := (first | omega | (simp; omega))) only [wrap_i64, wrap_u8, wrap_u32, wrap_u64, Int.tmod_eq_emod_of_nonneg, Int.tdiv_eq_ediv_of_nonneg]); (first | refine acall_pure (n1) (by simp) ?_ | refine acall_pure (n2) (by simp) ?_ | refine acall_pure (n3) (by simp) ?_ | refine acall_pure (n1') (by simp) ?_ | refine acall_pure (n2') (by simp) ?_ | refine acall_pure (n3') (by simp) ?_ | refine acall_pure (awake_call) (by simp) ?_ | refine acall_pure (z1) (by simp) ?_ | refine acall_pure (z2) (by simp) ?_ | refine acall_pure (z3) (by simp) ?_ | refine acall_pure (z4) (by simp) ?_ | refine acall_pure (z5) (by simp) ?_ | skip); (repeat (refine And.intro (by first | omega | (simp; first | done | omega) | assumption | (intro e9; have e8 := congrArg List.length e9; first | (simp at e8; done) | ((try simp only [List.length_map, List.length_append] at e8); rw [List.length_nil] at e8; omega))) ?_)); (first | refine h9 _ _ (arunU_slots (by first | (dsimp only [sput, sset]; done) | rfl) ?_)); clear h9 K9)
    | (refine arunU_end ?_)
    | (refine awp_seq fun K hK => ?_)
    | (refine awp_regionU ?_)
    | (refine hK _ _ ?_; clear hK K)
    | (refine awp_block ?_)
    | (refine awp_cond rfl (fun hcnd => ?_) (fun hcnd => ?_) <;> (try simp at hcnd) <;> (try contradiction) <;> (try (exfalso; omega)))
    | (refine awp_skip ?_)
    | (refine awp_exit ?_; simp only [athen_normal, athen_exit, athen_ret, ablock_self, ablock_ne, ablock_normal, ablock_ret, Nat.reduceBEq])
    | (refine awp_ret ?_; refine ret_go ?_)
    | (refine arunU_no ?_ ?_; (focus (simp [List.take_of_length_le, hul]; done)); refine arunU_slots (by first | (dsimp only [sput, sset]; done) | rfl) ?_)
    | (refine fall_go ?_)
    | (simp only [athen_normal, athen_exit, athen_ret, ablock_self, ablock_ne, ablock_normal, ablock_ret, Nat.reduceBEq])
    | (clear hK K; refine hK _ _ ?_; clear hK K)
    | (clear hK K; clear hK K; refine hK _ _ ?_; clear hK K)
    | (clear hK K; clear hK K; clear hK K; refine hK _ _ ?_; clear hK K)
    | (clear hK K; clear hK K; clear hK K; clear hK K; refine hK _ _ ?_; clear hK K)
    | (clear hK K; clear hK K; clear hK K; clear hK K; clear hK K; refine hK _ _ ?_; clear hK K))
      exact .pure .bool
    · intro e1 e2 e3 e4 e5
      rw [e1] at z1; rw [e2] at z2; rw [e3] at z3; rw [e4] at z4; rw [e5] at z5
      repeat' (first
    | ((first | refine arunU_go0 rfl fun K9 h9 => ?_ | (refine arunU_go ?_ ?_; (focus (simp [List.take_of_length_le, hul]; done)); intro K9 h9)); simp (disch := (first | (simp; done) | omega | (simp; omega))) [List.take_of_length_le, hul]; (try simp (disch := (first | omega | (simp; omega))) only [wrap_i64, wrap_u8, wrap_u32, wrap_u64, Int.tmod_eq_emod_of_nonneg, Int.tdiv_eq_ediv_of_nonneg]); (first | refine acall_pure (n1) (by simp) ?_ | refine acall_pure (n2) (by simp) ?_ | refine acall_pure (n3) (by simp) ?_ | refine acall_pure (n1') (by simp) ?_ | refine acall_pure (n2') (by simp) ?_ | refine acall_pure (n3') (by simp) ?_ | refine acall_pure (awake_call) (by simp) ?_ | refine acall_pure (z1) (by simp) ?_ | refine acall_pure (z2) (by simp) ?_ | refine acall_pure (z3) (by simp) ?_ | refine acall_pure (z4) (by simp) ?_ | refine acall_pure (z5) (by simp) ?_ | skip); (repeat (refine And.intro (by first | omega | (simp; first | done | omega) | assumption | (intro e9; have e8 := congrArg List.length e9; first | (simp at e8; done) | ((try simp only [List.length_map, List.length_append] at e8); rw [List.length_nil] at e8; omega))) ?_)); (first | refine h9 _ _ (arunU_slots (by first | (dsimp only [sput, sset]; done) | rfl) ?_)); clear h9 K9)
    | (refine arunU_end ?_)
    | (refine awp_seq fun K hK => ?_)
    | (refine awp_regionU ?_)
    | (refine hK _ _ ?_; clear hK K)
    | (refine awp_block ?_)
    | (refine awp_cond rfl (fun hcnd => ?_) (fun hcnd => ?_) <;> (try simp at hcnd) <;> (try contradiction) <;> (try (exfalso; omega)))
    | (refine awp_skip ?_)
    | (refine awp_exit ?_; simp only [athen_normal, athen_exit, athen_ret, ablock_self, ablock_ne, ablock_normal, ablock_ret, Nat.reduceBEq])
    | (refine awp_ret ?_; refine ret_go ?_)
    | (refine arunU_no ?_ ?_; (focus (simp [List.take_of_length_le, hul]; done)); refine arunU_slots (by first | (dsimp only [sput, sset]; done) | rfl) ?_)
    | (refine fall_go ?_)
    | (simp only [athen_normal, athen_exit, athen_ret, ablock_self, ablock_ne, ablock_normal, ablock_ret, Nat.reduceBEq])
    | (clear hK K; refine hK _ _ ?_; clear hK K)
    | (clear hK K; clear hK K; refine hK _ _ ?_; clear hK K)
    | (clear hK K; clear hK K; clear hK K; refine hK _ _ ?_; clear hK K)
    | (clear hK K; clear hK K; clear hK K; clear hK K; refine hK _ _ ?_; clear hK K)
    | (clear hK K; clear hK K; clear hK K; clear hK K; clear hK K; refine hK _ _ ?_; clear hK K))
      exact .pure .bool
  have d1 := within_call s x (by omega) (by omega)
  have d2 := within_call s y (by omega) (by omega)
  have d3 := within_call x y (by omega) (by omega)
  have d4 := within_call y x (by omega) (by omega)
  cases e1 : withinB s x <;> rw [e1] at d1
  · repeat' (first
    | ((first | refine arunU_go0 rfl fun K9 h9 => ?_ | (refine arunU_go ?_ ?_; (focus (simp ; done)); intro K9 h9)); simp (disch := (first | (simp; done) | omega | (simp; omega))) ; (try simp (disch := (first | omega | (simp; omega))) only [wrap_i64, wrap_u8, wrap_u32, wrap_u64, Int.tmod_eq_emod_of_nonneg, Int.tdiv_eq_ediv_of_nonneg]); (first | refine acall_pure (d1) (by simp) ?_ | skip); (repeat (refine And.intro (by first | omega | (simp; first | done | omega) | assumption | (intro e9; have e8 := congrArg List.length e9; first | (simp at e8; done) | ((try simp only [List.length_map, List.length_append] at e8); rw [List.length_nil] at e8; omega))) ?_)); (first | refine h9 _ _ (arunU_slots (by first | (dsimp only [sput, sset]; done) | rfl) ?_)); clear h9 K9)
    | (refine arunU_end ?_)
    | (refine awp_seq fun K hK => ?_)
    | (refine awp_regionU ?_)
    | (refine hK _ _ ?_; clear hK K)
    | (refine awp_block ?_)
    | (refine awp_cond rfl (fun hcnd => ?_) (fun hcnd => ?_) <;> (try simp at hcnd) <;> (try contradiction) <;> (try (exfalso; omega)))
    | (refine awp_skip ?_)
    | (refine awp_exit ?_; simp only [athen_normal, athen_exit, athen_ret, ablock_self, ablock_ne, ablock_normal, ablock_ret, Nat.reduceBEq])
    | (refine awp_ret ?_; refine ret_go ?_)
    | (refine arunU_no ?_ ?_; (focus (simp ; done)); refine arunU_slots (by first | (dsimp only [sput, sset]; done) | rfl) ?_)
    | (refine fall_go ?_)
    | (simp only [athen_normal, athen_exit, athen_ret, ablock_self, ablock_ne, ablock_normal, ablock_ret, Nat.reduceBEq])
    | (clear hK K; refine hK _ _ ?_; clear hK K)
    | (clear hK K; clear hK K; refine hK _ _ ?_; clear hK K)
    | (clear hK K; clear hK K; clear hK K; refine hK _ _ ?_; clear hK K)
    | (clear hK K; clear hK K; clear hK K; clear hK K; refine hK _ _ ?_; clear hK K)
    | (clear hK K; clear hK K; clear hK K; clear hK K; clear hK K; refine hK _ _ ?_; clear hK K))
    exact hle _ _ _ _ (Le.drop (by simp)) main
  cases e2 : withinB s y <;> rw [e2] at d2
  · repeat' (first
    | ((first | refine arunU_go0 rfl fun K9 h9 => ?_ | (refine arunU_go ?_ ?_; (focus (simp ; done)); intro K9 h9)); simp (disch := (first | (simp; done) | omega | (simp; omega))) ; (try simp (disch := (first | omega | (simp; omega))) only [wrap_i64, wrap_u8, wrap_u32, wrap_u64, Int.tmod_eq_emod_of_nonneg, Int.tdiv_eq_ediv_of_nonneg]); (first | refine acall_pure (d1) (by simp) ?_ | refine acall_pure (d2) (by simp) ?_ | skip); (repeat (refine And.intro (by first | omega | (simp; first | done | omega) | assumption | (intro e9; have e8 := congrArg List.length e9; first | (simp at e8; done) | ((try simp only [List.length_map, List.length_append] at e8); rw [List.length_nil] at e8; omega))) ?_)); (first | refine h9 _ _ (arunU_slots (by first | (dsimp only [sput, sset]; done) | rfl) ?_)); clear h9 K9)
    | (refine arunU_end ?_)
    | (refine awp_seq fun K hK => ?_)
    | (refine awp_regionU ?_)
    | (refine hK _ _ ?_; clear hK K)
    | (refine awp_block ?_)
    | (refine awp_cond rfl (fun hcnd => ?_) (fun hcnd => ?_) <;> (try simp at hcnd) <;> (try contradiction) <;> (try (exfalso; omega)))
    | (refine awp_skip ?_)
    | (refine awp_exit ?_; simp only [athen_normal, athen_exit, athen_ret, ablock_self, ablock_ne, ablock_normal, ablock_ret, Nat.reduceBEq])
    | (refine awp_ret ?_; refine ret_go ?_)
    | (refine arunU_no ?_ ?_; (focus (simp ; done)); refine arunU_slots (by first | (dsimp only [sput, sset]; done) | rfl) ?_)
    | (refine fall_go ?_)
    | (simp only [athen_normal, athen_exit, athen_ret, ablock_self, ablock_ne, ablock_normal, ablock_ret, Nat.reduceBEq])
    | (clear hK K; refine hK _ _ ?_; clear hK K)
    | (clear hK K; clear hK K; refine hK _ _ ?_; clear hK K)
    | (clear hK K; clear hK K; clear hK K; refine hK _ _ ?_; clear hK K)
    | (clear hK K; clear hK K; clear hK K; clear hK K; refine hK _ _ ?_; clear hK K)
    | (clear hK K; clear hK K; clear hK K; clear hK K; clear hK K; refine hK _ _ ?_; clear hK K))
    exact hle _ _ _ _ (Le.drop (by simp)) main
  cases e3 : withinB x y <;> rw [e3] at d3
  · have e4 := (within_nest e1 e2).resolve_left (by simp [e3])
    rw [e4] at d4
    repeat' (first
    | ((first | refine arunU_go0 rfl fun K9 h9 => ?_ | (refine arunU_go ?_ ?_; (focus (simp ; done)); intro K9 h9)); simp (disch := (first | (simp; done) | omega | (simp; omega))) ; (try simp (disch := (first | omega | (simp; omega))) only [wrap_i64, wrap_u8, wrap_u32, wrap_u64, Int.tmod_eq_emod_of_nonneg, Int.tdiv_eq_ediv_of_nonneg]); (first | refine acall_pure (d1) (by simp) ?_ | refine acall_pure (d2) (by simp) ?_ | refine acall_pure (d3) (by simp) ?_ | refine acall_pure (d4) (by simp) ?_ | skip); (repeat (refine And.intro (by first | omega | (simp; first | done | omega) | assumption | (intro e9; have e8 := congrArg List.length e9; first | (simp at e8; done) | ((try simp only [List.length_map, List.length_append] at e8); rw [List.length_nil] at e8; omega))) ?_)); (first | refine h9 _ _ (arunU_slots (by first | (dsimp only [sput, sset]; done) | rfl) ?_)); clear h9 K9)
    | (refine arunU_end ?_)
    | (refine awp_seq fun K hK => ?_)
    | (refine awp_regionU ?_)
    | (refine hK _ _ ?_; clear hK K)
    | (refine awp_block ?_)
    | (refine awp_cond rfl (fun hcnd => ?_) (fun hcnd => ?_) <;> (try simp at hcnd) <;> (try contradiction) <;> (try (exfalso; omega)))
    | (refine awp_skip ?_)
    | (refine awp_exit ?_; simp only [athen_normal, athen_exit, athen_ret, ablock_self, ablock_ne, ablock_normal, ablock_ret, Nat.reduceBEq])
    | (refine awp_ret ?_; refine ret_go ?_)
    | (refine arunU_no ?_ ?_; (focus (simp ; done)); refine arunU_slots (by first | (dsimp only [sput, sset]; done) | rfl) ?_)
    | (refine fall_go ?_)
    | (simp only [athen_normal, athen_exit, athen_ret, ablock_self, ablock_ne, ablock_normal, ablock_ret, Nat.reduceBEq])
    | (clear hK K; refine hK _ _ ?_; clear hK K)
    | (clear hK K; clear hK K; refine hK _ _ ?_; clear hK K)
    | (clear hK K; clear hK K; clear hK K; refine hK _ _ ?_; clear hK K)
    | (clear hK K; clear hK K; clear hK K; clear hK K; refine hK _ _ ?_; clear hK K)
    | (clear hK K; clear hK K; clear hK K; clear hK K; clear hK K; refine hK _ _ ?_; clear hK K))
    exact hle _ _ _ _ (Le.drop (by simp)) main
  · repeat' (first
    | ((first | refine arunU_go0 rfl fun K9 h9 => ?_ | (refine arunU_go ?_ ?_; (focus (simp ; done)); intro K9 h9)); simp (disch := (first | (simp; done) | omega | (simp; omega))) ; (try simp (disch := (first | omega | (simp; omega))) only [wrap_i64, wrap_u8, wrap_u32, wrap_u64, Int.tmod_eq_emod_of_nonneg, Int.tdiv_eq_ediv_of_nonneg]); (first | refine acall_pure (d1) (by simp) ?_ | refine acall_pure (d2) (by simp) ?_ | refine acall_pure (d3) (by simp) ?_ | skip); (repeat (refine And.intro (by first | omega | (simp; first | done | omega) | assumption | (intro e9; have e8 := congrArg List.length e9; first | (simp at e8; done) | ((try simp only [List.length_map, List.length_append] at e8); rw [List.length_nil] at e8; omega))) ?_)); (first | refine h9 _ _ (arunU_slots (by first | (dsimp only [sput, sset]; done) | rfl) ?_)); clear h9 K9)
    | (refine arunU_end ?_)
    | (refine awp_seq fun K hK => ?_)
    | (refine awp_regionU ?_)
    | (refine hK _ _ ?_; clear hK K)
    | (refine awp_block ?_)
    | (refine awp_cond rfl (fun hcnd => ?_) (fun hcnd => ?_) <;> (try simp at hcnd) <;> (try contradiction) <;> (try (exfalso; omega)))
    | (refine awp_skip ?_)
    | (refine awp_exit ?_; simp only [athen_normal, athen_exit, athen_ret, ablock_self, ablock_ne, ablock_normal, ablock_ret, Nat.reduceBEq])
    | (refine awp_ret ?_; refine ret_go ?_)
    | (refine arunU_no ?_ ?_; (focus (simp ; done)); refine arunU_slots (by first | (dsimp only [sput, sset]; done) | rfl) ?_)
    | (refine fall_go ?_)
    | (simp only [athen_normal, athen_exit, athen_ret, ablock_self, ablock_ne, ablock_normal, ablock_ret, Nat.reduceBEq])
    | (clear hK K; refine hK _ _ ?_; clear hK K)
    | (clear hK K; clear hK K; refine hK _ _ ?_; clear hK K)
    | (clear hK K; clear hK K; clear hK K; refine hK _ _ ?_; clear hK K)
    | (clear hK K; clear hK K; clear hK K; clear hK K; refine hK _ _ ?_; clear hK K)
    | (clear hK K; clear hK K; clear hK K; clear hK K; clear hK K; refine hK _ _ ?_; clear hK K))
    exact hle _ _ _ _ (Le.drop (by simp)) main
  · exact .bool

theorem hostNested_fits : ∀ xs, FitsAll Tryd.prog 8 Tryd.f9.params.toList xs → PCall Tryd.prog 9 xs (.bool true) := by
  intro xs h
  rw [show Tryd.f9.params.toList = [22, 22, 22, 22, 22, 5, 5] by kernel_rfl] at h
  obtain ⟨x1, xs, rfl, h1, h⟩ := fitsAll_cons h
  obtain ⟨x2, xs, rfl, h2, h⟩ := fitsAll_cons h
  obtain ⟨x3, xs, rfl, h3, h⟩ := fitsAll_cons h
  obtain ⟨x4, xs, rfl, h4, h⟩ := fitsAll_cons h
  obtain ⟨x5, xs, rfl, h5, h⟩ := fitsAll_cons h
  obtain ⟨x6, xs, rfl, h6, h⟩ := fitsAll_cons h
  obtain ⟨x7, xs, rfl, h7, h⟩ := fitsAll_cons h
  obtain rfl := fitsAll_nil h
  obtain ⟨l, hl, rfl⟩ := fits_u8s (e := 5) (by kernel_rfl) (by kernel_rfl) h1
  obtain ⟨m, hm, rfl⟩ := fits_u8s (e := 5) (by kernel_rfl) (by kernel_rfl) h2
  obtain ⟨n, hn, rfl⟩ := fits_u8s (e := 5) (by kernel_rfl) (by kernel_rfl) h3
  obtain ⟨a, ha, rfl⟩ := fits_u8s (e := 5) (by kernel_rfl) (by kernel_rfl) h4
  obtain ⟨b, hb, rfl⟩ := fits_u8s (e := 5) (by kernel_rfl) (by kernel_rfl) h5
  obtain ⟨c, rfl⟩ := fits_u8 (by kernel_rfl) h6
  obtain ⟨d, rfl⟩ := fits_u8 (by kernel_rfl) h7
  exact hostNested_call l m n a b c d hl hm hn ha hb
end Go.Proofs.YtegmenlonpgnpaaDoor
