/-
 STATUS: StatusNewest.
 Conditions: none.
-/
import Derived.Test.YtnpndfmbkmbhbaaGreatDoorEe
set_option maxRecDepth 100000
set_option maxHeartbeats 32000000
set_option linter.all false
namespace Go.Sta
open Go.VS Go.Stp Go.Der Go.Proofs.YtnpndfmbkmbhbaaGreatDoor
def mN (p : Nat × Nat) : Ml := mlS p.1 .N (if p.2 = 3 then some (5, 6, authV 0) else if p.2 = 4 then some (5, 1, authV 0) else none)
def lN (p : Nat × Nat) : Li := (mN p).done 0
def wN (k : Nat) : Int := if k = 3 then 3 else if k = 4 then 2 else 1
structure NOk (n : Nat) (L : List (Nat × Nat)) : Prop where
 r : ∀ p ∈ L, 1 ≤ p.1 ∧ p.1 < n ∧ 1 ≤ p.2 ∧ p.2 ≤ 4
 s : L.Pairwise fun p q => p.1 < q.1
 l : L.length < n
def wantN (L : List (Nat × Nat)) : Int := match L.getLast? with | none => 0 | some p => wN p.2
def numN (L : List (Nat × Nat)) : Int := match L.getLast? with | none => 0 | some p => p.1
theorem wantN_add (L : List (Nat × Nat)) (p : Nat × Nat) : wantN (L ++ [p]) = wN p.2 := by simp [wantN]
theorem numN_add (L : List (Nat × Nat)) (p : Nat × Nat) : numN (L ++ [p]) = p.1 := by simp [numN]
theorem NOk.next {n : Nat} {L : List (Nat × Nat)} (h : NOk n L) : NOk (n + 1) L := ⟨fun p hp => by have := h.r p hp; omega, h.s, by have := h.l; omega⟩
theorem NOk.add {n : Nat} {L : List (Nat × Nat)} (h : NOk n L) (hn : 1 ≤ n) (k : Nat) (hk : 1 ≤ k ∧ k ≤ 4) : NOk (n + 1) (L ++ [(n, k)]) :=
 ⟨fun p hp => by
  rcases List.mem_append.1 hp with hp | hp
  ·have := h.r p hp; omega
  ·simp at hp; subst hp; dsimp only; omega, by
  rw [List.pairwise_append]
  refine ⟨h.s, by simp, fun p hp q hq => ?_⟩
  simp at hq; subst hq
  exact (h.r p hp).2.1, by have := h.l; simp; omega⟩
theorem mN_own (p : Nat × Nat) : Own0 (mN p) := mlS_own _ _ _ (.inl rfl)
theorem mN_ok {p : Nat × Nat} (h : p.1 < 100) : MlOk (mN p) := by
 unfold mN
 split
 ·exact mlS_okE p.1 .N 5 6 h (.inl rfl) (by omega) (by omega) (by omega)
 ·split
  ·exact mlS_okE p.1 .N 5 1 h (.inl rfl) (by omega) (by omega) (by omega)
  ·exact mlS_ok p.1 .N h (.inl rfl)
theorem lN_w {p : Nat × Nat} (h : p.1 < 100) : WSt (lN p) := done_wst (mN_ok h) 0
theorem lN_fnd (p : Nat × Nat) : stV (vdR (fndE (uce 5 []) (lN p))) = wN p.2 := by
 unfold lN mN wN
 by_cases h3 : p.2 = 3
 ·rw [if_pos h3, if_pos h3, fnd_some (s := 5) (r := 6) (w := authV 0) rfl rfl n00]; rfl
 ·rw [if_neg h3, if_neg h3]
  by_cases h4 : p.2 = 4
  ·rw [if_pos h4, if_pos h4, fnd_some (s := 5) (r := 1) (w := authV 0) rfl rfl n00]; rfl
  ·rw [if_neg h4, if_neg h4, fnd_none rfl]; rfl
theorem newest {n : Nat} {L M : List (Nat × Nat)} (h : NOk n L) (hp : M.Perm L) (hne : L ≠ []) : ∃ k, ∃ hk : k < M.length, (M[k].1 : Int) = numN L ∧ wN M[k].2 = wantN L ∧ ∀ i (hi : i < M.length), i ≠ k → M[i].1 < M[k].1 := by
 obtain ⟨A, p, rfl⟩ : ∃ A p, L = A ++ [p] := ⟨L.dropLast, L.getLast hne, (List.dropLast_concat_getLast hne).symm⟩
 have hs := List.pairwise_append.1 h.s
 have hpm : p ∈ M := hp.mem_iff.2 (by simp)
 obtain ⟨k, hk, e⟩ := List.getElem_of_mem hpm
 have hnd : M.Pairwise (fun a b => a.1 ≠ b.1) := by
  have h1 : (A ++ [p]).Pairwise (fun a b => a.1 ≠ b.1) := h.s.imp (fun h => by omega)
  exact (List.Perm.pairwise_iff (R := fun a b : Nat × Nat => a.1 ≠ b.1) (fun h e => h e.symm) hp).2 h1
 refine ⟨k, hk, by rw [e, numN_add], by rw [e, wantN_add], fun i hi hik => ?_⟩
 have hm : M[i] ∈ A ++ [p] := hp.mem_iff.1 (List.getElem_mem hi)
 rw [e]
 rcases List.mem_append.1 hm with hm | hm
 ·exact hs.2.2 _ hm p (by simp)
 ·have hpi : M[i] = p := by simpa using hm
  have hpw := List.pairwise_iff_getElem.1 hnd
  exfalso
  rcases Nat.lt_or_ge i k with h1 | h1
  ·exact hpw i k hi hk h1 (by rw [hpi, e])
  ·exact hpw k i hk hi (by omega) (by rw [hpi, e])
theorem mapN (M : List (Nat × Nat)) : (M.map mN).map (Ml.done · 0) = M.map lN := by simp [lN, Function.comp_def]
theorem evN {n : Nat} {L M : List (Nat × Nat)} (h : NOk n L) (hp : M.Perm L) {k : Nat} (hk : k < M.length) (hx : ∀ i (hi : i < M.length), i ≠ k → M[i].1 < M[k].1) : evid (uce 5 []) [anc 0] (M.map lN) 5 = [((k : Int), -1)] := by
 rw [← mapN]
 refine ev_max (fun m hm => ?_) 5 k (by simpa using hk) (fun i hi hik => ?_)
 ·obtain ⟨p, -, rfl⟩ := List.mem_map.1 hm
  exact ⟨mN_own p, rfl, rfl, rfl⟩
 ·simp only [List.getElem_map]
  exact hx i (by simpa using hi) hik
theorem giN (M : List (Nat × Nat)) (k : Nat) (hk : k < M.length) : gi (M.map lN) (k : Int) = lN M[k] := by
 rw [gi_get _ k (by simpa using hk)]; simp
theorem ofN {n : Nat} {L M : List (Nat × Nat)} (h : NOk n L) (hp : M.Perm L) : ofB (uce 5 []) [anc 0] (M.map lN) 5 = wantN L := by
 by_cases hne : L = []
 ·subst hne
  have : M = [] := List.Perm.eq_nil hp
  subst this
  exact v_nil _ _ _
 ·obtain ⟨k, hk, h1, h2, h3⟩ := newest h hp hne
  rw [ofB, evN h hp hk h3, ofF1 (by rw [giN M k hk]; exact own_mask (mN_own _) 5), ← h2, ← lN_fnd]
  unfold vdB
  rw [if_neg (by simp; omega), giN M k hk]
  simp
def csN (L : List (Nat × Nat)) : List V := (L.map lN).flatMap Li.c
theorem csN_len (L : List (Nat × Nat)) : (csN L).length = L.length * 17 := by rw [csN, lis_len]; simp
theorem csN_at (L : List (Nat × Nat)) (i : Nat) (h : i < L.length) : ((csN L).drop (i * 17)).take 17 = (lN L[i]).c := by
 have := lis_at (L.map lN) i (by simpa using h)
 simpa [csN] using this
@[simp] theorem csN_nil : csN [] = [] := rfl
@[simp] theorem csN_add (L : List (Nat × Nat)) (p : Nat × Nat) : csN (L ++ [p]) = csN L ++ (lN p).c := by simp [csN]
theorem fl_len {α : Type} (f : α → List V) (h : ∀ a, (f a).length = 17) (L : List α) : (L.flatMap f).length = L.length * 17 := by
 induction L with
 | nil => rfl
 | cons a L ih => simp [ih, h]; omega
theorem fl_put {α : Type} (f : α → List V) (h : ∀ a, (f a).length = 17) (L : List α) (i : Nat) (hi : i < L.length) (p : α) : lput (L.flatMap f) (i * 17) (f p) = (L.set i p).flatMap f := by
 have hl := fl_len f h
 have e : L = L.take i ++ L[i] :: L.drop (i + 1) := by simp
 have e2 : L.set i p = L.take i ++ p :: L.drop (i + 1) := by rw [List.set_eq_take_append_cons_drop, if_pos hi]
 rw [lput_eq (by rw [hl, h]; omega), e2, h]
 have t1 : (L.take i).length = i := by simp; omega
 have g1 : (L.flatMap f) = (L.take i).flatMap f ++ (f L[i] ++ (L.drop (i + 1)).flatMap f) := by
  conv => lhs; rw [e]
  rw [List.flatMap_append, List.flatMap_cons]
 have g2 : ((L.take i).flatMap f).length = i * 17 := by rw [hl, t1]
 have g3 : ((L.take i).flatMap f ++ f L[i]).length = i * 17 + 17 := by simp [g2, h]
 rw [List.flatMap_append, List.flatMap_cons]
 rw [g1, List.take_left' g2, ← List.append_assoc, List.drop_left' g3, List.append_assoc]
theorem csN_swp (L : List (Nat × Nat)) (i k : Nat) (hi : i < L.length) (hk : k < L.length) : lput (lput (csN L) (i * 17) (lN L[k]).c) (k * 17) (lN L[i]).c = csN ((L.set i L[k]).set k L[i]) := by
 have e : ∀ M : List (Nat × Nat), csN M = M.flatMap (fun p => (lN p).c) := fun M => by rw [csN, List.flatMap_map]
 rw [e, e, fl_put (fun p => (lN p).c) (fun _ => rfl) L i hi, fl_put (fun p => (lN p).c) (fun _ => rfl) _ k (by simpa using hk)]
theorem liN_one (l : Li) : ∀ c ∈ l.c, c.one = true := by simp [Li.c]
@[simp] theorem csN_pures (L : List (Nat × Nat)) : Pures (csN L) := by
 unfold csN
 exact flat_pures (f := Li.c) (fun l => Li.c_pures l) _
end Go.Sta
namespace Go.Proofs.YtnpndfmbkmbhbaaGreatDoor
open Go.Proofs.Tryz
open Go.VS Go.Stp Go.Der Go.Sta
attribute [local irreducible] arun arunD arunU AWp aend verE wr DU.arunD
attribute [local simp] DU.gval
def dkN (l : List Int) (a : Nat) : List V := [.sl l.length (l.map (V.int .i64)), .int .i64 a]
def dkNA (l : List Int) (a : Nat) : Nat := if l.length ≤ a then a else a + 1
@[simp] theorem dkN_pures (l : List Int) (a : Nat) : Pures (dkN l a) := by simp [dkN]
theorem dkN_le {l : List Int} {a : Nat} (h : a ≤ l.length) : dkNA l a ≤ l.length := by unfold dkNA; split <;> omega
theorem deckN_call (l : List Int) : NCall prog 9 [.sl l.length (l.map (V.int .i64))] (dkN l 0) := by
 refine ncall_body func9 rfl call9 ?_
 refine awp_slots (s' := (.sl l.length (l.map (V.int .i64)) : V) :: zJ 5) rfl ?_; dsimp only [zJ]
 repeat' (first | refine Zq ?_ | refine Zt ?_ | refine Y8 fun K hK => ?_ | (apply hK; clear hK K) | refine Zx ?_ | clear hK K)
 simp [dkN]
theorem nextN_call (l : List Int) (a n : Nat) (hl : l.length ≤ 140737488355328) (ha : a ≤ l.length) (hn : 0 < n) (hn2 : n ≤ 1099511627776) (hr : ∀ k ∈ l, -9223372036854775808 ≤ k ∧ k ≤ 9223372036854775807) :
  MCall prog 10 [.ref 0 0, .int .i64 n] (dkN l a) (dkN l (dkNA l a)) (.int .i64 (dkX l a n)) := by
 refine mcall_body func10 rfl call10 ?_ ?_ ?_
 rotate_left 2
 refine awp_slots (s' := (.ref 0 0 : V) :: (.int .i64 n : V) :: zJ 37) rfl ?_; dsimp only [zJ]
 by_cases h : l.length ≤ a
 ·rw [show dkNA l a = a by rw [dkNA, if_pos h], show dkX l a n = 0 by rw [dkX, if_pos h]]
  unfold dkN
  repeat' (first | (refine Zu ?_; intro K9 h9; simp (disch := first | exact dd | fail) [h]; refine Zm ?_; refine Zf h9 ?_; clear h9 K9) | refine Zt ?_ | refine Y8 fun K hK => ?_ | (apply hK; clear hK K) | (refine Zk 0 [] ?_; refine Zl ?_) | (refine Yb rfl ?_ ?_ <;> intro hcnd <;> (try simp at hcnd) <;> try exact dc) | refine Zx ?_ | clear hK K)
  simp
  exact mend_plain
 ·rw [show dkNA l a = a + 1 by rw [dkNA, if_neg h], show dkX l a n = ((l.getD a 0).tmod n + n).tmod n by rw [dkX, if_neg h]]
  unfold dkN
  have hg : l[a]? = some (l.getD a 0) := by rw [List.getD_eq_getElem?_getD, List.getElem?_eq_getElem (by omega)]; rfl
  have hm : l.getD a 0 ∈ l := List.mem_of_getElem? hg
  have hb := hr _ hm
  generalize l.getD a 0 = x at *
  have hx := tmod_bounds (x := x) hn
  repeat' (first | (refine Zu ?_; intro K9 h9; simp (disch := first | exact dd | fail) [h, hg]; refine Zm ?_; refine Zf h9 ?_; clear h9 K9) | refine Zt ?_ | refine Y8 fun K hK => ?_ | (apply hK; clear hK K) | (refine Zk 0 [] ?_; refine Zl ?_) | (refine Yb rfl ?_ ?_ <;> intro hcnd <;> (try simp at hcnd) <;> try exact dc) | refine Zx ?_ | clear hK K)
  have hga : l[a]'(by omega) = x := by have := hg; rw [List.getElem?_eq_getElem (by omega)] at this; exact Option.some.inj this
  simp [hga]
  have hw : IntKind.i64.wrap (x.tmod n + n) = x.tmod n + n := wrap_i64 (by omega) (by omega)
  rw [hw]
  exact ⟨rfl, mend_plain⟩
 ·exact .int
 ·simp
theorem nsig1 (n : Nat) (hn : n < 100) : PCall prog 11 [.int .i64 n, .int .i64 (-1), .int .i64 5, .int .i64 (-1)] (.agg (lN (n, 1)).c) := by
 exact signedN_call n .N (.inl rfl) (mN_ok (p := (n, 1)) hn) 5 (-1) (by omega)
theorem nsig2 (n : Nat) (hn : n < 100) : PCall prog 11 [.int .i64 n, .int .i64 (-1), .int .i64 5, .int .i64 (-1)] (.agg (lN (n, 2)).c) := by
 exact signedN_call n .N (.inl rfl) (mN_ok (p := (n, 2)) hn) 5 (-1) (by omega)
theorem nsig3 (n : Nat) (hn : n < 100) : PCall prog 11 [.int .i64 n, .int .i64 (-1), .int .i64 5, .int .i64 6] (.agg (lN (n, 3)).c) := by
 exact signedE_call 5 6 n .N (.inl rfl) (mN_ok (p := (n, 3)) hn)
theorem nsig4 (n : Nat) (hn : n < 100) : PCall prog 11 [.int .i64 n, .int .i64 (-1), .int .i64 5, .int .i64 1] (.agg (lN (n, 4)).c) := by
 exact signedE_call 5 1 n .N (.inl rfl) (mN_ok (p := (n, 4)) hn)
theorem newest_call (l : List Int) (hl : l.length ≤ 140737488355328) (hr : ∀ k ∈ l, -9223372036854775808 ≤ k ∧ k ≤ 9223372036854775807) : PCall prog 4 [.sl l.length (l.map (V.int .i64))] (.bool true) := by
 have aw := awake28_call
 have u5 : PCall prog 14 [.int .i64 5] (.agg [.str [], .str [], .int .i64 5, nmV (authN 0), .sl 0 [], .int .i64 0, .int .i64 0, .int .i64 0, .str [], .str [], .bool false, .bool false, .int .i64 0, .int .i64 0, .sl 0 [], .sl 0 [], .sl 0 [], .int .i64 0, .int .i64 0, .int .i64 0, .sl 0 [], .bool false, .sl 0 [], .sl 0 [], .str [], .str [], .sl 0 [], .sl 0 [], .sl 0 [], .str []]) := user_call 5
 have an : PCall prog 12 [.int .i64 0] (.agg [nmV (authN 0), .int .i64 0, .str (pubK 0).id, .str (pubK 0).root]) := anchor_call 0 (by omega)
 have w1 : ∀ s ∈ [anc 0], WAn s := fun s hs => by simp at hs; subst hs; exact anc_w 0
 have hd := deckN_call l
 refine pcall_body func4 rfl call4 ?_ ?_
 rotate_left 1
 refine awp_slots (s' := (.sl l.length (l.map (V.int .i64)) : V) :: zJ 114) rfl ?_; dsimp only [zJ]
 rotate_left 1
 ·exact .bool
 repeat' (first | ((first | refine Zu ?_ | (refine Zv ?_ ?_; (focus (simp; done)))); intro K9 h9; refine Zd ?_; ((first | refine acall_new hd (dkN_pures _ _) (by simp) ?_ | skip) <;> (refine Zf h9 ?_; clear h9 K9))) | refine Zt ?_ | refine Y8 fun K hK => ?_ | (apply hK; clear hK K) | (refine Zk 0 [] ?_; refine Zl ?_) | (refine Yb rfl ?_ ?_ <;> intro hcnd <;> (try simp at hcnd) <;> try exact dc) | refine Zo ?_ | refine Zx ?_ | clear hK K)
 refine awp_loopU (α := Nat × Nat × List (Nat × Nat)) (fun x => (some V.junk :: none :: some V.junk :: some (V.ref 0 0) :: some (V.osl 1 0 x.2.2.length 17) :: some (V.int .i64 (wantN x.2.2)) :: some (V.int .i64 (numN x.2.2)) :: some (V.int .i64 x.1) :: zS 107 [])) (fun x => [.live (dkN l x.2.1), .live (csN x.2.2)]) (fun x => 1 ≤ x.1 ∧ x.1 ≤ 7 ∧ x.2.1 ≤ l.length ∧ NOk x.1 x.2.2) (fun x => 8 - x.1) (1, 0, []) ⟨by omega, by omega, Nat.zero_le _, ⟨by simp, .nil, by simp⟩⟩ ?_ ?_
 ·dsimp only [ups, zN, zS]
  exact Le.mk [some 0, none] (by simp [wantN, numN]) (rowsRen_of (by simp) (by simp [rowsOver, rowRen_live, rens_pures])) (by simp)
 rintro ⟨n, a, L⟩ ⟨h1, h7, ha, hL0⟩ KL hL
 dsimp only at h1 h7 ha hL0
 dsimp only [ups, zN, zS]
 rcases Nat.lt_or_ge n 7 with h6 | h6
 ·have hnx : MCall prog 10 [.ref 0 0, .int .i64 5] (dkN l a) (dkN l (dkNA l a)) (.int .i64 (dkX l a 5)) := nextN_call l a 5 hl ha (by omega) (by omega) hr
  have hb := dkX_bounds (l := l) (a := a) (n := 5) (by omega)
  have ha2 : dkNA l a ≤ l.length := dkN_le ha
  obtain ⟨k, hk, hk2⟩ : ∃ k : Nat, dkX l a 5 = k ∧ k < 5 := ⟨(dkX l a 5).toNat, by omega, by omega⟩
  rw [hk] at hnx
  clear hk hb
  generalize dkNA l a = a2 at *
  have hlen := csN_len L
  have hpu := csN_pures L
  have htk : (csN L).take (L.length * 17) = csN L := List.take_of_length_le (by omega)
  have hl0 := hL0.l
  have hl7 : (L.length + 1) * 224 ≤ 140737488355328 := by omega
  have hl8 : L.length ≤ 1099511627775 := by omega
  have h66 : (n : Int) ≤ 6 := by omega
  obtain rfl | rfl | rfl | rfl | rfl : k = 0 ∨ k = 1 ∨ k = 2 ∨ k = 3 ∨ k = 4 := by omega
  ·have hst := hL0.next
   repeat' (first | ((first | refine Zu ?_ | (refine Zv ?_ ?_; (focus (simp [h66, hlen]; done)))); intro K9 h9; simp (disch := first | exact dd | fail) [h66, hlen]; refine Zm ?_; ((first | refine acall_mut 0 hnx rfl (dkN_pures _ _) (dkN_pures _ _) .int (by simp) ?_ | skip) <;> (refine Zf h9 ?_; clear h9 K9))) | refine Zt ?_ | refine Y8 fun K hK => ?_ | (apply hK; clear hK K) | (refine Zk 0 [] ?_; refine Zl ?_) | (refine Yb rfl ?_ ?_ <;> intro hcnd <;> (try simp at hcnd) <;> try exact dc) | (refine Zn ?_ ?_; (focus (simp [h66, hlen]; done)); refine Zs ?_) | refine Zx ?_ | clear hK K)
   refine hL (n + 1, a2, L) _ _ ⟨by omega, by omega, ha2, hst⟩ (by dsimp only; omega) ?_
   exact Yr [some 0, some 1] (by simp [rowsOver, rowRen_live, rens_pures, hpu])
  ·have sg := nsig1 n (by omega)
   have hcl : (lN (n, 1)).c.length = 17 := rfl
   have hcp : Pures (lN (n, 1)).c := Li.c_pures _
   have hone : ∀ c ∈ (lN (n, 1)).c, c.one = true := liN_one _
   have hst := hL0.add h1 1 (by omega)
   generalize hlc : (lN (n, 1)).c = LC at *
   have hput : lput [V.str [], .str [], .nils, .int .i64 0, .int .i64 0, .int .i64 0, .int .i64 0, .str [], .bool false, .nils, .bool false, .bool false, .int .i64 0, .bool false, .nils, .nils, .str []] 0 LC = LC := lput_all (by rw [hcl]; rfl)
   have ht17 : LC.take 17 = LC := List.take_of_length_le (by omega)
   repeat' (first | ((first | refine Zu ?_ | (refine Zv ?_ ?_; (focus (simp [h66, hlen, hcl, hput, ht17, hone, htk, hl7, hl8]; done)))); intro K9 h9; simp (disch := first | exact dd | fail) [h66, hlen, hcl, hput, ht17, hone, htk, hl7, hl8]; refine Zm ?_; ((first | refine acall_mut 0 hnx rfl (dkN_pures _ _) (dkN_pures _ _) .int (by simp) ?_ | refine Ap sg ?_ | skip) <;> (refine Zf h9 ?_; clear h9 K9))) | refine Zt ?_ | refine Y8 fun K hK => ?_ | (apply hK; clear hK K) | (refine Zk 0 [] ?_; refine Zl ?_) | (refine Yb rfl ?_ ?_ <;> intro hcnd <;> (try simp at hcnd) <;> try exact dc) | (refine Zn ?_ ?_; (focus (simp [h66, hlen, hcl, hput, ht17, hone, htk, hl7, hl8]; done)); refine Zs ?_) | refine Zx ?_ | clear hK K)
   have hadd : csN (L ++ [(n, 1)]) = csN L ++ LC := by rw [csN_add, hlc]
   refine hL (n + 1, a2, L ++ [(n, 1)]) _ _ ⟨by omega, by omega, ha2, hst⟩ (by dsimp only; omega) ?_
   exact Le.mk [some 0, some 4] (by dsimp only [ups, zN, zS]; simp [wantN_add, numN_add, wN]) (rowsRen_of (by simp) (by simp [rowsOver, rowRen_live, rens_pures, hpu, hcp, hadd])) (by simp)
  ·have sg := nsig2 n (by omega)
   have hcl : (lN (n, 2)).c.length = 17 := rfl
   have hcp : Pures (lN (n, 2)).c := Li.c_pures _
   have hone : ∀ c ∈ (lN (n, 2)).c, c.one = true := liN_one _
   have hst := hL0.add h1 2 (by omega)
   generalize hlc : (lN (n, 2)).c = LC at *
   have hput : lput [V.str [], .str [], .nils, .int .i64 0, .int .i64 0, .int .i64 0, .int .i64 0, .str [], .bool false, .nils, .bool false, .bool false, .int .i64 0, .bool false, .nils, .nils, .str []] 0 LC = LC := lput_all (by rw [hcl]; rfl)
   have ht17 : LC.take 17 = LC := List.take_of_length_le (by omega)
   repeat' (first | ((first | refine Zu ?_ | (refine Zv ?_ ?_; (focus (simp [h66, hlen, hcl, hput, ht17, hone, htk, hl7, hl8]; done)))); intro K9 h9; simp (disch := first | exact dd | fail) [h66, hlen, hcl, hput, ht17, hone, htk, hl7, hl8]; refine Zm ?_; ((first | refine acall_mut 0 hnx rfl (dkN_pures _ _) (dkN_pures _ _) .int (by simp) ?_ | refine Ap sg ?_ | skip) <;> (refine Zf h9 ?_; clear h9 K9))) | refine Zt ?_ | refine Y8 fun K hK => ?_ | (apply hK; clear hK K) | (refine Zk 0 [] ?_; refine Zl ?_) | (refine Yb rfl ?_ ?_ <;> intro hcnd <;> (try simp at hcnd) <;> try exact dc) | (refine Zn ?_ ?_; (focus (simp [h66, hlen, hcl, hput, ht17, hone, htk, hl7, hl8]; done)); refine Zs ?_) | refine Zx ?_ | clear hK K)
   have hadd : csN (L ++ [(n, 2)]) = csN L ++ LC := by rw [csN_add, hlc]
   refine hL (n + 1, a2, L ++ [(n, 2)]) _ _ ⟨by omega, by omega, ha2, hst⟩ (by dsimp only; omega) ?_
   exact Le.mk [some 0, some 4] (by dsimp only [ups, zN, zS]; simp [wantN_add, numN_add, wN]) (rowsRen_of (by simp) (by simp [rowsOver, rowRen_live, rens_pures, hpu, hcp, hadd])) (by simp)
  ·have sg := nsig3 n (by omega)
   have hcl : (lN (n, 3)).c.length = 17 := rfl
   have hcp : Pures (lN (n, 3)).c := Li.c_pures _
   have hone : ∀ c ∈ (lN (n, 3)).c, c.one = true := liN_one _
   have hst := hL0.add h1 3 (by omega)
   generalize hlc : (lN (n, 3)).c = LC at *
   have hput : lput [V.str [], .str [], .nils, .int .i64 0, .int .i64 0, .int .i64 0, .int .i64 0, .str [], .bool false, .nils, .bool false, .bool false, .int .i64 0, .bool false, .nils, .nils, .str []] 0 LC = LC := lput_all (by rw [hcl]; rfl)
   have ht17 : LC.take 17 = LC := List.take_of_length_le (by omega)
   repeat' (first | ((first | refine Zu ?_ | (refine Zv ?_ ?_; (focus (simp [h66, hlen, hcl, hput, ht17, hone, htk, hl7, hl8]; done)))); intro K9 h9; simp (disch := first | exact dd | fail) [h66, hlen, hcl, hput, ht17, hone, htk, hl7, hl8]; refine Zm ?_; ((first | refine acall_mut 0 hnx rfl (dkN_pures _ _) (dkN_pures _ _) .int (by simp) ?_ | refine Ap sg ?_ | skip) <;> (refine Zf h9 ?_; clear h9 K9))) | refine Zt ?_ | refine Y8 fun K hK => ?_ | (apply hK; clear hK K) | (refine Zk 0 [] ?_; refine Zl ?_) | (refine Yb rfl ?_ ?_ <;> intro hcnd <;> (try simp at hcnd) <;> try exact dc) | (refine Zn ?_ ?_; (focus (simp [h66, hlen, hcl, hput, ht17, hone, htk, hl7, hl8]; done)); refine Zs ?_) | refine Zx ?_ | clear hK K)
   have hadd : csN (L ++ [(n, 3)]) = csN L ++ LC := by rw [csN_add, hlc]
   refine hL (n + 1, a2, L ++ [(n, 3)]) _ _ ⟨by omega, by omega, ha2, hst⟩ (by dsimp only; omega) ?_
   exact Le.mk [some 0, some 4] (by dsimp only [ups, zN, zS]; simp [wantN_add, numN_add, wN]) (rowsRen_of (by simp) (by simp [rowsOver, rowRen_live, rens_pures, hpu, hcp, hadd])) (by simp)
  ·have sg := nsig4 n (by omega)
   have hcl : (lN (n, 4)).c.length = 17 := rfl
   have hcp : Pures (lN (n, 4)).c := Li.c_pures _
   have hone : ∀ c ∈ (lN (n, 4)).c, c.one = true := liN_one _
   have hst := hL0.add h1 4 (by omega)
   generalize hlc : (lN (n, 4)).c = LC at *
   have hput : lput [V.str [], .str [], .nils, .int .i64 0, .int .i64 0, .int .i64 0, .int .i64 0, .str [], .bool false, .nils, .bool false, .bool false, .int .i64 0, .bool false, .nils, .nils, .str []] 0 LC = LC := lput_all (by rw [hcl]; rfl)
   have ht17 : LC.take 17 = LC := List.take_of_length_le (by omega)
   repeat' (first | ((first | refine Zu ?_ | (refine Zv ?_ ?_; (focus (simp [h66, hlen, hcl, hput, ht17, hone, htk, hl7, hl8]; done)))); intro K9 h9; simp (disch := first | exact dd | fail) [h66, hlen, hcl, hput, ht17, hone, htk, hl7, hl8]; refine Zm ?_; ((first | refine acall_mut 0 hnx rfl (dkN_pures _ _) (dkN_pures _ _) .int (by simp) ?_ | refine Ap sg ?_ | skip) <;> (refine Zf h9 ?_; clear h9 K9))) | refine Zt ?_ | refine Y8 fun K hK => ?_ | (apply hK; clear hK K) | (refine Zk 0 [] ?_; refine Zl ?_) | (refine Yb rfl ?_ ?_ <;> intro hcnd <;> (try simp at hcnd) <;> try exact dc) | (refine Zn ?_ ?_; (focus (simp [h66, hlen, hcl, hput, ht17, hone, htk, hl7, hl8]; done)); refine Zs ?_) | refine Zx ?_ | clear hK K)
   have hadd : csN (L ++ [(n, 4)]) = csN L ++ LC := by rw [csN_add, hlc]
   refine hL (n + 1, a2, L ++ [(n, 4)]) _ _ ⟨by omega, by omega, ha2, hst⟩ (by dsimp only; omega) ?_
   exact Le.mk [some 0, some 4] (by dsimp only [ups, zN, zS]; simp [wantN_add, numN_add, wN]) (rowsRen_of (by simp) (by simp [rowsOver, rowRen_live, rens_pures, hpu, hcp, hadd])) (by simp)
 ·obtain rfl : n = 7 := by omega
  clear h1 h7
  have hl0 := hL0.l
  repeat' (first | refine Zr ?_ | refine Zt ?_ | refine Y8 fun K hK => ?_ | (apply hK; clear hK K) | (refine Zk 0 [] ?_; refine Zl ?_) | (refine Yb rfl ?_ ?_ <;> intro hcnd <;> (try simp at hcnd) <;> try exact dc) | refine Zo ?_ | refine Zx ?_ | clear hK K)
  clear KL hL
  refine awp_loopU (α := Nat × Nat × List (Nat × Nat)) (fun x => (some V.junk :: none :: some V.junk :: zN 4 (zS 2 (some (V.int .i64 ((x.1 : Int) - 1)) :: zS 105 [])))) (fun x => [.live (dkN l x.2.1), .live (csN x.2.2)]) (fun x => x.1 ≤ L.length ∧ x.2.1 ≤ l.length ∧ x.2.2.Perm L) (fun x => x.1) (L.length, a, L) ⟨Nat.le_refl _, ha, .refl _⟩ ?_ ?_
  ·dsimp only [ups, zN, zS]
   exact Yr [some 0, some 1] (by simp [rowsOver, rowRen_live, rens_pures])
  rintro ⟨j, b, M⟩ ⟨hj, hb, hM⟩ KL hL
  dsimp only at hj hb hM
  dsimp only [ups, zN, zS]
  have hlM : M.length = L.length := hM.length_eq
  have hcM := csN_len M
  have hpM := csN_pures M
  rcases Nat.lt_or_ge 1 j with h1 | h1
  ·have hnx : MCall prog 10 [.ref 0 0, .int .i64 j] (dkN l b) (dkN l (dkNA l b)) (.int .i64 (dkX l b j)) := nextN_call l b j hl hb (by omega) (by omega) hr
   have hbd := dkX_bounds (l := l) (a := b) (n := j) (by omega)
   have hb2 : dkNA l b ≤ l.length := dkN_le hb
   obtain ⟨k, hk, hkj⟩ : ∃ k : Nat, dkX l b j = k ∧ k < j := ⟨(dkX l b j).toNat, by omega, by omega⟩
   rw [hk] at hnx
   clear hk hbd
   generalize dkNA l b = b2 at *
   obtain ⟨i, rfl⟩ : ∃ i, j = i + 1 := ⟨j - 1, by omega⟩
   have e1 : (((i + 1 : Nat) : Int) - 1) = (i : Int) := by omega
   have e2 : ((i + 1 : Nat) : Int) = (i : Int) + 1 := by omega
   rw [e2] at hnx
   simp only [e1]
   have hi : i < M.length := by omega
   have hkM : k < M.length := by omega
   have hsw := csN_swp M i k hi hkM
   have ati := csN_at M i hi
   have atk := csN_at M k hkM
   have hpr : ((M.set i M[k]).set k M[i]).Perm L := (List.set_set_perm hi hkM).trans hM
   have ci : (lN M[i]).c.length = 17 := rfl
   have ck : (lN M[k]).c.length = 17 := rfl
   have oi := liN_one (lN M[i])
   have ok := liN_one (lN M[k])
   have hi0 : (0 : Int) < i := by omega
   have hik : (i + 1) * 17 ≤ (csN M).length := by omega
   have hkk : (k + 1) * 17 ≤ (csN M).length := by omega
   have pi := Li.c_pures (lN M[i])
   have pk := Li.c_pures (lN M[k])
   have hpZ := csN_pures ((M.set i M[k]).set k M[i])
   generalize (lN M[i]).c = CI at *
   generalize (lN M[k]).c = CK at *
   have hlp : (lput (csN M) (i * 17) CK).length = M.length * 17 := by rw [lput_length, hcM]
   generalize (M.set i M[k]).set k M[i] = Z at *
   repeat' (first | ((first | refine Zu ?_ | (refine Zv ?_ ?_; (focus (simp [hi0, hcM, ati, atk, hsw, ci, ck, oi, ok, hik, hkk, hlp]; done)))); intro K9 h9; simp (disch := first | exact dd | fail) [hi0, hcM, ati, atk, hsw, ci, ck, oi, ok, hik, hkk, hlp]; refine Zm ?_; ((first | refine acall_mut 0 hnx rfl (dkN_pures _ _) (dkN_pures _ _) .int (by simp) ?_ | skip) <;> (refine Zf h9 ?_; clear h9 K9))) | refine Zt ?_ | refine Y8 fun K hK => ?_ | (apply hK; clear hK K) | (refine Zk 0 [] ?_; refine Zl ?_) | (refine Yb rfl ?_ ?_ <;> intro hcnd <;> (try simp at hcnd) <;> try exact dc) | (refine Zn ?_ ?_; (focus (simp [hi0, hcM, ati, atk, hsw, ci, ck, oi, ok, hik, hkk, hlp]; done)); refine Zs ?_) | refine Zx ?_ | clear hK K)
   refine hL (i, b2, Z) _ _ ⟨by omega, hb2, hpr⟩ (by dsimp only; omega) ?_
   exact Yr [some 0, some 1] (by simp [rowsOver, rowRen_live, rens_pures, hpZ])
  have p : PCall prog 13 [.agg [.str [], .str [], .int .i64 5, nmV (authN 0), .sl 0 [], .int .i64 0, .int .i64 0, .int .i64 0, .str [], .str [], .bool false, .bool false, .int .i64 0, .int .i64 0, .sl 0 [], .sl 0 [], .sl 0 [], .int .i64 0, .int .i64 0, .int .i64 0, .sl 0 [], .bool false, .sl 0 [], .sl 0 [], .str [], .str [], .sl 0 [], .sl 0 [], .sl 0 [], .str []], .sl 1 [nmV (authN 0), .int .i64 0, .str (pubK 0).id, .str (pubK 0).root], .sl L.length (csN M), .int .i64 5] (.int .i64 (wantN L)) := by
   have h := of_call (uce 5 []) [anc 0] (M.map lN) 5 (uce_w 5 (by simp; omega) (fun x hx => by obtain ⟨q, hq, rfl⟩ := List.mem_map.1 hx; exact lN_w (by have := hL0.r q (hM.mem_iff.1 hq); omega))) (by simp) w1 (by simp; omega)
   rw [ofN hL0 hM] at h
   rw [show lisV (M.map lN) = .sl L.length (csN M) by simp [lisV, csN, hlM]] at h
   exact h
  rcases Nat.eq_zero_or_pos L.length with h0 | h0
  ·obtain rfl : L = [] := List.length_eq_zero_iff.1 h0
   obtain rfl : M = [] := List.Perm.eq_nil hM
   have q : PCall prog 15 [.agg [.str [], .str [], .int .i64 5, nmV (authN 0), .sl 0 [], .int .i64 0, .int .i64 0, .int .i64 0, .str [], .str [], .bool false, .bool false, .int .i64 0, .int .i64 0, .sl 0 [], .sl 0 [], .sl 0 [], .int .i64 0, .int .i64 0, .int .i64 0, .sl 0 [], .bool false, .sl 0 [], .sl 0 [], .str [], .str [], .sl 0 [], .sl 0 [], .sl 0 [], .str []], .sl 1 [nmV (authN 0), .int .i64 0, .str (pubK 0).id, .str (pubK 0).root], .sl 0 [], .int .i64 5] (.sl 0 []) := by
    have h := evid_call (uce 5 []) [anc 0] [] 5 (uce_w 5 (by simp) (by simp)) (by simp) w1 (by simp)
    rw [show evid (uce 5 []) [anc 0] [] 5 = [] by simp [evid, prfs]] at h
    exact h
   clear w1
   simp only [csN_nil, List.length_nil] at p
   dsimp only [wantN, numN, List.getLast?_nil] at p ⊢
   generalize (pubK 0).id = ID at *
   generalize (pubK 0).root = RT at *
   repeat' (first | refine Zz 1 ?_ | refine Zz 2 ?_ | ((first | refine ZuD ?_ | (refine ZvD ?_ ?_; (focus (simp; done)))); intro K9 h9; refine Zd ?_; ((first | refine Zc u5 ?_ | refine Zc an ?_ | refine Zc aw ?_ | refine Zc p ?_ | refine Zc q ?_ | skip) <;> (refine ZfD h9 ?_; clear h9 K9))) | refine ZtD ?_ | refine Y8 fun K hK => ?_ | (apply hK; clear hK K) | (refine DU.Zk 0 [] ?_; refine Zl ?_) | (refine Yb rfl ?_ ?_ <;> intro hcnd <;> (try simp at hcnd) <;> try exact dc) | refine ZoD ?_ | refine Zx ?_ | clear hK K)
   simp
   exact .pure .bool
  ·obtain ⟨k, hk, x1, x2, x3⟩ := newest hL0 hM (by rintro rfl; simp at h0)
   have ev := evN hL0 hM hk x3
   have q : PCall prog 15 [.agg [.str [], .str [], .int .i64 5, nmV (authN 0), .sl 0 [], .int .i64 0, .int .i64 0, .int .i64 0, .str [], .str [], .bool false, .bool false, .int .i64 0, .int .i64 0, .sl 0 [], .sl 0 [], .sl 0 [], .int .i64 0, .int .i64 0, .int .i64 0, .sl 0 [], .bool false, .sl 0 [], .sl 0 [], .str [], .str [], .sl 0 [], .sl 0 [], .sl 0 [], .str []], .sl 1 [nmV (authN 0), .int .i64 0, .str (pubK 0).id, .str (pubK 0).root], .sl L.length (csN M), .int .i64 5] (.sl 1 [.int .i64 k, .int .i64 (-1)]) := by
    have h := evid_call (uce 5 []) [anc 0] (M.map lN) 5 (uce_w 5 (by simp; omega) (fun x hx => by obtain ⟨q, hq, rfl⟩ := List.mem_map.1 hx; exact lN_w (by have := hL0.r q (hM.mem_iff.1 hq); omega))) (by simp) w1 (by simp; omega)
    rw [ev, show lisV (M.map lN) = .sl L.length (csN M) by simp [lisV, csN, hlM]] at h
    exact h
   clear w1 ev x3
   have atk := csN_at M k hk
   generalize M[k] = y at *
   have hkk : (k + 1) * 17 ≤ (csN M).length := by omega
   have hcL : (csN M).length = L.length * 17 := by rw [hcM, hlM]
   have t1 : List.take (L.length * 17) (csN M) = csN M := List.take_of_length_le (by omega)
   have hk1 : ¬ L.length ≤ k := by omega
   have hk2 : k < L.length := by omega
   have hk3 : k * 17 + 17 ≤ L.length * 17 := by omega
   clear hcM
   have hlt : k * 17 + 5 < (csN M).length := by omega
   have hg : (csN M)[k * 17 + 5]'hlt = .int .i64 (numN L) := by
    have e1 : (csN M)[k * 17 + 5]? = (((csN M).drop (k * 17)).take 17)[5]? := by simp
    rw [atk, List.getElem?_eq_getElem hlt] at e1
    have e2 : (lN y).c[5]? = some (.int .i64 (numN L)) := by rw [← x1]; rfl
    rw [e2] at e1
    exact Option.some.inj e1
   generalize (pubK 0).id = ID at *
   generalize (pubK 0).root = RT at *
   repeat' (first | (refine awp_freeze' 1 rfl (by simp) (by simp [fz_pure, fz_own, fz_osln, fz_refn, hcL, t1]; rfl) (by simp [fzRow, fz_pure, fz_own, fz_osln, fz_refn]; rfl) ?_) | refine Zz 2 ?_ | ((first | refine ZuD ?_ | (refine ZvD ?_ ?_; (focus (simp [h0, hcL, hk1, hk2, hk3, hg]; done)))); intro K9 h9; simp (disch := first | exact dd | fail) [h0, hcL, hk1, hk2, hk3, hg]; refine Zm ?_; ((first | refine Zc u5 ?_ | refine Zc an ?_ | refine Zc aw ?_ | refine Zc p ?_ | refine Zc q ?_ | skip) <;> (refine ZfD h9 ?_; clear h9 K9))) | refine ZtD ?_ | refine Y8 fun K hK => ?_ | (apply hK; clear hK K) | (refine DU.Zk 0 [] ?_; refine Zl ?_) | (refine Yb rfl ?_ ?_ <;> intro hcnd <;> (try simp at hcnd) <;> try exact dc) | (refine ZnD ?_ ?_; (focus (simp [h0, hcL, hk1, hk2, hk3, hg]; done)); refine ZsD ?_) | refine Zx ?_ | clear hK K)
   simp
   exact .pure .bool
theorem flatN {α β : Type} {R : α → Prop} (g : α → β) : ∀ {yss : List (List β)}, (∀ ys ∈ yss, ∃ a, R a ∧ ys = [g a]) → ∃ l : List α, l.length = yss.length ∧ (∀ a ∈ l, R a) ∧ yss.flatten = l.map g
 | [], _ => ⟨[], rfl, by simp, rfl⟩
 | ys :: yss, h => by
  obtain ⟨a, ha, rfl⟩ := h ys (by simp)
  obtain ⟨l, h1, h2, h3⟩ := flatN g (yss := yss) fun ys hy => h ys (by simp [hy])
  exact ⟨a :: l, by simp [h1], by simpa using ⟨ha, h2⟩, by simp [h3]⟩
theorem fitsN {P : Program} {f : Nat} {t e : TypeId} {x : V} (ht : P.underlying t = some (.slice e)) (he : P.underlying e = some (.int .i64)) (h : FitsV P (f + 2) t x) :
  ∃ l : List Int, l.length ≤ 140737488355328 ∧ (∀ k ∈ l, -9223372036854775808 ≤ k ∧ k ≤ 9223372036854775807) ∧ x = .sl l.length (l.map (V.int .i64)) := by
 simp only [FitsV, ht, Fits, he] at h
 obtain ⟨yss, h1, -, h2, h0⟩ := h
 obtain ⟨l, h3, h5, h4⟩ := flatN (R := fun k : Int => -9223372036854775808 ≤ k ∧ k ≤ 9223372036854775807) (V.int .i64) (yss := yss) fun ys hy => by
  obtain ⟨k, hk, rfl⟩ := h2 ys hy
  exact ⟨k, i64_of hk, rfl⟩
 exact ⟨l, Nat.le_trans (m := reachBytes) (by omega) (Nat.le_of_lt reachBytes_lt), h5, by rw [h3, ← h4]; simpa using h0⟩
theorem newest_fits : ∀ xs, FitsAll prog 8 Tryz.f4.params.toList xs → PCall prog 4 xs (.bool true) := by
 intro xs h
 rw [show Tryz.f4.params.toList = [24] by kernel_rfl] at h
 obtain ⟨x1, xs, rfl, h1, h⟩ := fitsAll_cons h
 obtain rfl := fitsAll_nil h
 obtain ⟨l, hl, hr, rfl⟩ := fitsN (e := 3) (by kernel_rfl) (by kernel_rfl) h1
 exact newest_call l hl hr
end Go.Proofs.YtnpndfmbkmbhbaaGreatDoor

