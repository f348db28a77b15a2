/-
 ENCODINGS: constructed elements checked by the reference.
 Conditions: none.
-/
import Derived.Test.YtnpndfmbkmbhbaaGreatDoorHh
set_option maxRecDepth 100000
set_option maxHeartbeats 32000000
set_option linter.all false
namespace Go.Proofs.YtnpndfmbkmbhbaaGreatDoor
open Go.Proofs.Tryz
open Go.VS Go.Der Go.Stp
attribute [local irreducible] arun arunD arunU AWp aend
theorem chk1_call (tag : Int) (l : List (Int × Bs)) (raw : Bs) (d : Nat) (ht0 : 0 ≤ tag) (ht1 : tag ≤ 255) (h1 : tag / 32 % 2 = 1) (hT : TcS l) (hn : (wrs l).length ≤ 1000000) (hd : d < 15) (hc : ∀ p ∈ l, PCall prog 228 [.agg [.int .i64 p.1, .str p.2, .str (wr p.1 p.2)], .int .i64 ((d : Int) + 1)] (.int .i64 0)) : PCall prog 228 [.agg [.int .i64 tag, .str (wrs l), .str raw], .int .i64 d] (.int .i64 0) := by
 have h0 : ¬ tag / 32 % 2 = 0 := by omega
 have hd' : ¬ (16 : Int) ≤ (d : Int) + 1 := by omega
 refine pcall_body func228 rfl call228 ?_ ?_
 rotate_left 1
 refine awp_slots (s' := (.agg [.int .i64 tag, .str (wrs l), .str raw] : V) :: (.int .i64 d : V) :: zJ 38) rfl ?_; dsimp only [zJ]
 ·repeat' (first | (refine Zu ?_; intro K9 h9; simp (disch := first | exact dd | fail) [h0]; refine Zm ?_; refine Zf h9 ?_; clear h9 K9) | refine Zt ?_ | refine Y8 fun K hK => ?_ | (apply hK; clear hK K) | (refine Yb rfl ?_ ?_ <;> intro hcnd <;> (try simp at hcnd) <;> try exact dc) | refine Zx ?_ | clear hK K)
  refine awp_countU (fun i => (some V.junk :: none :: some V.junk :: none :: some V.junk :: some (V.str (wrs (l.drop i))) :: zS 34 [])) (fun i => []) l.length ?_ fun i hi KL hL => ?_
  ·dsimp only [ups, zN, zS]
   exact Le.drop (by simp)
  dsimp only [ups, zN, zS]
  rcases Nat.lt_or_ge i l.length with hi | hi
  ·have hp := hT _ (List.getElem_mem hi)
   have hk := hc _ (List.getElem_mem hi)
   have hle := wrs_drop_le l (i + 1)
   have hrd := read_call l[i].1 l[i].2 (wrs (l.drop (i + 1))) hp.1 hp.2 (by omega)
   have hw := @wr_len l[i].1 l[i].2
   rw [← wrs_drop l i hi] at hrd
   have hle0 := wrs_drop_le l i
   have hpos : ¬ wrs (l.drop i) = [] := fun e => by
    have e2 := congrArg List.length (wrs_drop l i hi)
    rw [e, List.length_append, List.length_nil] at e2
    omega
   unfold wel El.c at hrd
   dsimp only at hrd
   generalize wrs (l.drop i) = B at *
   generalize wr l[i].1 l[i].2 = R at *
   generalize l[i].1 = t at *
   generalize l[i].2 = c at *
   repeat' (first | (refine Zu ?_; intro K9 h9; simp (disch := first | exact dd | fail) [hpos, hd']; refine Zm ?_; ((first | refine Ap hrd ?_ | refine Ap hk ?_ | skip) <;> (refine Zf h9 ?_; clear h9 K9))) | refine Zt ?_ | refine Y8 fun K hK => ?_ | (apply hK; clear hK K) | (refine Yb rfl ?_ ?_ <;> intro hcnd <;> (try simp at hcnd) <;> try exact dc) | refine Zx ?_ | clear hK K)
   refine hL _ _ hi ?_
   exact Le.drop (by dsimp only [ups, zN, zS]; simp)
  ·obtain rfl : i = l.length := by omega
   rw [List.drop_length]
   have hw0 : wrs [] = [] := rfl
   rw [hw0]
   repeat' (first | refine Zq ?_ | refine Zt ?_ | refine Y8 fun K hK => ?_ | (apply hK; clear hK K) | (refine Yb rfl ?_ ?_ <;> intro hcnd <;> (try simp at hcnd) <;> try exact dc) | refine Zx ?_ | clear hK K)
   exact .pure .int
 ·exact .int
abbrev ChkAt (tag : Int) (c : Bs) (d : Nat) : Prop := PCall prog 228 [.agg [.int .i64 tag, .str c, .str (wr tag c)], .int .i64 d] (.int .i64 0)
theorem chkp (tag : Int) (c : Bs) (d : Nat) (h0 : 0 ≤ tag) (h1 : tag ≤ 255) (h : tag / 32 % 2 = 0) : ChkAt tag c d := chk0_call tag c _ d h0 h1 h
theorem chkc1 (tag t : Int) (c : Bs) (d : Nat) (ht0 : 0 ≤ tag) (ht1 : tag ≤ 255) (h1 : tag / 32 % 2 = 1) (ht : TagOk t) (hc : c.length ≤ 1000) (hd : d < 15) (hk : ChkAt t c (d + 1)) : ChkAt tag (wr t c) d := by
 have hw := @wr_len t c
 have h := chk1_call tag [(t, c)] (wr tag (wr t c)) d ht0 ht1 h1 (tc1 ht (by omega)) (by rw [wrs1]; omega) hd fun p hp => by
  simp at hp; subst hp; exact hk
 rw [wrs1] at h
 exact h
theorem chkc2 (tag t u : Int) (c e : Bs) (d : Nat) (ht0 : 0 ≤ tag) (ht1 : tag ≤ 255) (h1 : tag / 32 % 2 = 1) (ht : TagOk t) (hc : c.length ≤ 1000) (hu : TagOk u) (he : e.length ≤ 1000) (hd : d < 15) (hk : ChkAt t c (d + 1)) (hl : ChkAt u e (d + 1)) : ChkAt tag (wr t c ++ wr u e) d := by
 have hw := @wr_len t c
 have hv := @wr_len u e
 have h := chk1_call tag [(t, c), (u, e)] (wr tag (wr t c ++ wr u e)) d ht0 ht1 h1 (tc2 ht (by omega) hu (by omega)) (by rw [wrs2, List.length_append]; omega) hd fun p hp => by
  simp at hp; rcases hp with rfl | rfl
  ·exact hk
  ·exact hl
 rw [wrs2] at h
 exact h
theorem checkc_call (tag : Int) (c : Bs) (ht : TagOk tag) (hc : c.length < 65536) (hk : ChkAt tag c 0) : PCall prog 210 [.str (wr tag c)] (.int .i64 0) := by
 have ho := one_call tag c ht hc
 have hk : PCall prog 228 [.agg [.int .i64 tag, .str c, .str (wr tag c)], .int .i64 0] (.int .i64 0) := hk
 unfold wel El.c at ho
 dsimp only at ho
 generalize wr tag c = B at *
 refine pcall_body func210 rfl call210 ?_ ?_
 rotate_left 1
 refine awp_slots (s' := (.str B : V) :: zJ 14) rfl ?_; dsimp only [zJ]
 ·repeat' (first | (refine Zu ?_; intro K9 h9; refine Zd ?_; ((first | refine Ap ho ?_ | refine Ap hk ?_ | skip) <;> (refine Zf h9 ?_; clear h9 K9))) | refine Zt ?_ | refine Y8 fun K hK => ?_ | (apply hK; clear hK K) | (refine Yb rfl ?_ ?_ <;> intro hcnd <;> (try simp at hcnd) <;> try exact dc) | refine Zx ?_ | clear hK K)
  exact .pure .int
 ·exact .int
theorem chkName (v : Bs) (hv : v.length ≤ 64) : ChkAt 48 (wr 164 (nmB v)) 0 := by
 have w1 : (wr 6 cO).length ≤ 8 := by decide
 have w2 := @wr_len 19 v
 have w3 := @wr_len 48 (wr 6 cO ++ wr 19 v)
 have w4 := @wr_len 49 (wr 48 (wr 6 cO ++ wr 19 v))
 have w5 := @wr_len 48 (wr 49 (wr 48 (wr 6 cO ++ wr 19 v)))
 rw [List.length_append] at w3
 have c0 : cO.length = 3 := rfl
 unfold nmB nmC
 refine chkc1 48 164 _ 0 (by omega) (by omega) (by decide) ⟨by omega, by omega, by omega⟩ (by omega) (by omega) ?_
 refine chkc1 164 48 _ 1 (by omega) (by omega) (by decide) ⟨by omega, by omega, by omega⟩ (by omega) (by omega) ?_
 refine chkc1 48 49 _ 2 (by omega) (by omega) (by decide) ⟨by omega, by omega, by omega⟩ (by omega) (by omega) ?_
 refine chkc1 49 48 _ 3 (by omega) (by omega) (by decide) ⟨by omega, by omega, by omega⟩ (by rw [List.length_append]; omega) (by omega) ?_
 refine chkc2 48 6 19 _ _ 4 (by omega) (by omega) (by decide) ⟨by omega, by omega, by omega⟩ (by omega) ⟨by omega, by omega, by omega⟩ (by omega) (by omega) ?_ ?_
 ·exact chkp 6 _ 5 (by omega) (by omega) (by decide)
 ·exact chkp 19 _ 5 (by omega) (by omega) (by decide)
end Go.Proofs.YtnpndfmbkmbhbaaGreatDoor
namespace Go.Proofs.YtnpndfmbkmbhbaaGreatDoor
open Go.Proofs.Tryz
open Go.VS Go.Der Go.Stp
attribute [local irreducible] arun arunD arunU AWp aend
structure VOk (v : Bs) : Prop where
 txt : PCall prog 166 [.int .i64 19, .str v] (.bool true)
 len : v.length ≤ 64
 ne : v ≠ []
theorem checkGen_call (v : Bs) (h : VOk v) : PCall prog 167 [.agg [.int .i64 4, .str [], nmV (nm1 v)], .bool false] (.int .i64 0) := by
 have hc := checkName_call v h.txt h.len h.ne
 have hp : (nmV (nm1 v)).Pure := .sl
 have h1 : (nmV (nm1 v)).one = true := rfl
 refine pcall_body func167 rfl call167 ?_ ?_
 rotate_left 1
 refine awp_slots (s' := (.agg [.int .i64 4, .str [], nmV (nm1 v)] : V) :: (.bool false : V) :: zJ 74) rfl ?_; dsimp only [zJ]
 ·repeat' (first | ((first | refine ZuU ?_ | (refine ZvU ?_ ?_; (focus (simp [h1]; done)))); intro K9 h9; simp (disch := first | exact dd | fail) [h1]; refine Zm ?_; ((first | refine Ap hc ?_ | skip) <;> (refine ZfU h9 ?_; clear h9 K9))) | refine ZtU ?_ | refine Y8 fun K hK => ?_ | (apply hK; clear hK K) | (refine Yb rfl ?_ ?_ <;> intro hcnd <;> (try simp at hcnd) <;> try exact dc) | (refine ZnU ?_ ?_; (focus (simp [h1]; done)); refine ZsU ?_) | refine Zx ?_ | clear hK K)
  exact .pure .int
 ·exact .int
theorem encGen_call (v : Bs) (h : VOk v) : PCall prog 169 [.agg [.int .i64 4, .str [], nmV (nm1 v)], .bool false] (.tup [.str (wr 164 (nmB v)), .int .i64 0]) := by
 have hc := checkGen_call v h
 have he := encName_call v h.txt h.len h.ne
 have hl := nmB_len v h.len
 have hw := wrap7_call 164 [nmB v] ⟨by omega, by omega, by omega⟩ (by simp) (by simp; omega)
 rw [show ([nmB v] : List Bs).flatten = nmB v by simp] at hw
 have hp : (nmV (nm1 v)).Pure := .sl
 have h1 : (nmV (nm1 v)).one = true := rfl
 generalize wr 164 (nmB v) = R at *
 generalize nmB v = B at *
 refine pcall_body func169 rfl call169 ?_ ?_
 rotate_left 1
 refine awp_slots (s' := (.agg [.int .i64 4, .str [], nmV (nm1 v)] : V) :: (.bool false : V) :: zJ 35) rfl ?_; dsimp only [zJ]
 ·repeat' (first | (refine Zu ?_; intro K9 h9; simp (disch := first | exact dd | fail) [h1]; refine Zm ?_; ((first | refine Ap hc ?_ | refine Ap he ?_ | refine acall_view hw ⟨.pure .int, view_row rfl (by simp) (by simp), trivial⟩ .str ?_ | skip) <;> (refine Zf h9 ?_; clear h9 K9))) | refine Zt ?_ | refine Y8 fun K hK => ?_ | (apply hK; clear hK K) | (refine Yb rfl ?_ ?_ <;> intro hcnd <;> (try simp at hcnd) <;> try exact dc) | refine Zx ?_ | clear hK K)
  exact .pure (by simp)
 ·exact .tup (by simp)
theorem encList1_call (v : Bs) (h : VOk v) : PCall prog 134 [.sl 1 [.int .i64 4, .str [], nmV (nm1 v)]] (.tup [.str (wr 164 (nmB v)), .int .i64 0]) := by
 have hc := encGen_call v h
 have hl := nmB_len v h.len
 have hw := @wr_len 164 (nmB v)
 have hl2 : (wr 164 (nmB v)).length ≤ 1000 := by omega
 have hp : (nmV (nm1 v)).Pure := .sl
 have h1 : (nmV (nm1 v)).one = true := rfl
 generalize wr 164 (nmB v) = R at *
 refine pcall_body func134 rfl call134 ?_ ?_
 rotate_left 1
 refine awp_slots (s' := (.sl 1 [.int .i64 4, .str [], nmV (nm1 v)] : V) :: zJ 33) rfl ?_; dsimp only [zJ]
 ·repeat' (first | (refine Zu ?_; intro K9 h9; simp (disch := first | exact dd | fail) [h1]; refine Zm ?_; ((first | refine Ap hc ?_ | skip) <;> (refine Zf h9 ?_; clear h9 K9))) | refine Zt ?_ | (refine awp_rounds 3 fun KL hL => ?_) | refine Y8 fun K hK => ?_ | (apply hK; clear hK K) | (refine Yb rfl ?_ ?_ <;> intro hcnd <;> (try simp at hcnd) <;> try exact dc) | refine Zx ?_ | clear hK K | (refine hL _ _ _ ?_) | (clear hK K) | (clear hL KL))
  exact .pure (by simp)
 ·exact .tup (by simp)
theorem directory_call (v : Bs) (h : VOk v) : PCall prog 89 [.agg [nmV (nm1 v)]] (.str (wr 164 (nmB v))) := by
 have hc := encList1_call v h
 have hp : (nmV (nm1 v)).Pure := .sl
 have h1 : (nmV (nm1 v)).one = true := rfl
 generalize wr 164 (nmB v) = R at *
 refine pcall_body func89 rfl call89 ?_ ?_
 rotate_left 1
 refine awp_slots (s' := (.agg [nmV (nm1 v)] : V) :: zJ 12) rfl ?_; dsimp only [zJ]
 ·repeat' (first | (refine Zu ?_; intro K9 h9; simp (disch := first | exact dd | fail) [h1]; refine Zm ?_; ((first | refine acall_view hc ⟨view_row rfl (by simp) (by simp [hp]), trivial⟩ (.tup (by simp)) ?_ | skip) <;> (refine Zf h9 ?_; clear h9 K9))) | refine Zt ?_ | refine Y8 fun K hK => ?_ | (apply hK; clear hK K) | refine Zx ?_ | clear hK K)
  exact .pure .str
 ·exact .str
theorem decGen_call (v raw : Bs) (h : VOk v) : PCall prog 229 [.agg [.int .i64 164, .str (nmB v), .str raw], .bool false] (.tup [.agg [.int .i64 4, .str [], nmV (nm1 v)], .int .i64 0]) := by
 have hc := checkGen_call v h
 have hd := decName_call v h.txt h.len h.ne
 have hp : (nmV (nm1 v)).Pure := .sl
 have h1 : (nmV (nm1 v)).one = true := rfl
 generalize nmB v = B at *
 refine pcall_body func229 rfl call229 ?_ ?_
 rotate_left 1
 refine awp_slots (s' := (.agg [.int .i64 164, .str B, .str raw] : V) :: (.bool false : V) :: zJ 44) rfl ?_; dsimp only [zJ]
 ·repeat' (first | (refine ZuU ?_; intro K9 h9; simp (disch := first | exact dd | fail) [h1]; refine Zm ?_; ((first | refine Ap hd ?_ | refine Ap hc ?_ | skip) <;> (refine ZfU h9 ?_; clear h9 K9))) | refine ZtU ?_ | refine Y8 fun K hK => ?_ | (apply hK; clear hK K) | (refine Yb rfl ?_ ?_ <;> intro hcnd <;> (try simp at hcnd) <;> try exact dc) | refine Zx ?_ | clear hK K)
  simp
  exact .pure (by simp [hp])
 ·exact .tup (by simp [hp])
theorem decList1_call (v : Bs) (h : VOk v) : PCall prog 211 [.str (wr 164 (nmB v))] (.tup [.sl 1 [.int .i64 4, .str [], nmV (nm1 v)], .int .i64 0]) := by
 have hl := nmB_len v h.len
 have hw := @wr_len 164 (nmB v)
 have hc := list_call [(164, nmB v)] (tc1 ⟨by omega, by omega, by omega⟩ (by omega)) (by rw [wrs1]; omega)
 rw [wrs1, show (wels [(164, nmB v)]).flatMap El.c = [.int .i64 164, .str (nmB v), .str (wr 164 (nmB v))] from rfl] at hc
 have hd := decGen_call v (wr 164 (nmB v)) h
 have hp : (nmV (nm1 v)).Pure := .sl
 have h1 : (nmV (nm1 v)).one = true := rfl
 generalize wr 164 (nmB v) = R at *
 generalize nmB v = B at *
 simp only [List.length_cons, List.length_nil] at hc
 refine pcall_body func211 rfl call211 ?_ ?_
 rotate_left 1
 refine awp_slots (s' := (.str R : V) :: zJ 44) rfl ?_; dsimp only [zJ]
 ·repeat' (first | (refine Zu ?_; intro K9 h9; simp (disch := first | exact dd | fail) [h1]; refine Zm ?_; ((first | refine Ap hc ?_ | refine Ap hd ?_ | skip) <;> (refine Zf h9 ?_; clear h9 K9))) | refine Zt ?_ | (refine awp_rounds 3 fun KL hL => ?_) | refine Y8 fun K hK => ?_ | (apply hK; clear hK K) | (refine Yb rfl ?_ ?_ <;> intro hcnd <;> (try simp at hcnd) <;> try exact dc) | refine Zx ?_ | clear hK K | (refine hL _ _ _ ?_) | (clear hK K) | (clear hL KL))
  simp
  exact view_tup ⟨view_row rfl (by simp) (by simp [hp]), .pure .int, trivial⟩
 ·exact .tup (by simp)
theorem oneDir_call (v : Bs) (h : VOk v) : PCall prog 176 [.str (wr 164 (nmB v))] (.tup [.agg [nmV (nm1 v)], .int .i64 0]) := by
 have hc := decList1_call v h
 have hp : (nmV (nm1 v)).Pure := .sl
 have h1 : (nmV (nm1 v)).one = true := rfl
 generalize wr 164 (nmB v) = R at *
 refine pcall_body func176 rfl call176 ?_ ?_
 rotate_left 1
 refine awp_slots (s' := (.str R : V) :: zJ 29) rfl ?_; dsimp only [zJ]
 ·repeat' (first | ((first | refine ZuU ?_ | (refine ZvU ?_ ?_; (focus (simp [h1]; done)))); intro K9 h9; simp (disch := first | exact dd | fail) [h1]; refine Zm ?_; ((first | refine Ap hc ?_ | skip) <;> (refine ZfU h9 ?_; clear h9 K9))) | refine ZtU ?_ | refine Y8 fun K hK => ?_ | (apply hK; clear hK K) | (refine Yb rfl ?_ ?_ <;> intro hcnd <;> (try simp at hcnd) <;> try exact dc) | (refine ZnU ?_ ?_; (focus (simp [h1]; done)); refine ZsU ?_) | refine Zx ?_ | clear hK K)
  simp
  exact .pure (by simp [hp])
 ·exact .tup (by simp [hp])
end Go.Proofs.YtnpndfmbkmbhbaaGreatDoor
