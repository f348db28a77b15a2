/-
 ENCODINGS: Read, One and List of the reference at well formed arguments.
 Conditions: none.
-/
import Derived.Test.YtnpndfmbkmbhbaaGreatDoorHa
set_option maxRecDepth 100000
set_option maxHeartbeats 32000000
namespace Go.Proofs.YtnpndfmbkmbhbaaGreatDoor
open Go.Proofs.Tryz
open Go.VS Go.Der
set_option linter.all false
attribute [local irreducible] arun arunD arunU AWp aend
theorem read0_call (t k : UInt8) (n : Nat) (c rest B : Bs) (ht : ¬ t.toNat % 32 = 31) (hk : k.toNat = n) (hn : n < 128) (hB : B = t :: k :: (c ++ rest)) (hc : c.length = n) (hr : rest.length ≤ 1000000) :
  PCall prog 140 [.str B] (.tup [.agg [.int .i64 t.toNat, .str c, .str (t :: k :: c)], .str rest, .int .i64 0]) := by
 have hl : B.length = n + rest.length + 2 := by subst hB; simp [hc]
 have h0 : B[0]'(by omega) = t := by subst hB; rfl
 have h1 : B[1]'(by omega) = k := by subst hB; rfl
 have hne : ¬ B = [] := by subst hB; simp
 have s1 : List.take n (List.drop 2 B) = c := by subst hB; subst hc; simp
 have s2 : List.take (2 + n) B = t :: k :: c := by subst hB; subst hc; simp [Nat.add_comm 2, List.take_append]
 have s3 : List.drop (2 + n) B = rest := by subst hB; subst hc; simp [Nat.add_comm 2, List.drop_append]
 have s4 : List.take (B.length - (2 + n)) (List.drop (2 + n) B) = rest := by rw [s3]; exact List.take_of_length_le (by omega)
 have ht2 := t.toNat_lt
 have g1 : ¬ (t.toNat : Int) % 32 = 31 := by omega
 have g4 : (2 + (n : Int)).toNat = 2 + n := by omega
 have g2 : ¬ (n : Int) = 128 := by omega
 have g3 : ¬ 131 < (n : Int) := by omega
 clear hB
 refine pcall_body func140 rfl call140 ?_ ?_
 rotate_left 1
 refine awp_slots (s' := (.str B : V) :: zJ 98) rfl ?_; dsimp only [zJ]
 ·repeat' (first | ((first | refine Zu ?_ | (refine Zv ?_ ?_; (focus (simp [hne, h0, h1, g1, g4, s1, s2, s4, hk, g2, g3]; done)))); intro K9 h9; simp (disch := first | exact dd | fail) [hne, h0, h1, g1, g4, s1, s2, s4, hk, g2, g3]; refine Zm ?_; refine Zf h9 ?_; clear h9 K9) | refine Zt ?_ | refine Y8 fun K hK => ?_ | (apply hK; clear hK K) | ((first | refine Zk 1 [0, 0, 0, 0, 0, 0, 0, 0, 0, 0, 0, 0, 0, 0, 0, 0, 0, 0, 0, 1, 0, 0, 0] ?_ | refine Zk 1 [] ?_); refine Zl ?_) | (refine Yb rfl ?_ ?_ <;> intro hcnd <;> (try simp at hcnd) <;> try exact dc) | (refine Zn ?_ ?_; (focus (simp [hne, h0, h1, g1, g4, s1, s2, s4, hk, g2, g3]; done)); refine Zs ?_) | refine Zx ?_ | clear hK K)
  simp
  exact .pure (by simp)
 ·exact .tup (by simp)
theorem read1_call (t x0 : UInt8) (n : Nat) (c rest B : Bs) (ht : ¬ t.toNat % 32 = 31) (hk : x0.toNat = n) (hn : 128 ≤ n) (hn2 : n ≤ 131072) (hB : B = t :: 129 :: x0 :: (c ++ rest)) (hc : c.length = n) (hr : rest.length ≤ 1000000) :
  PCall prog 140 [.str B] (.tup [.agg [.int .i64 t.toNat, .str c, .str (t :: 129 :: x0 :: c)], .str rest, .int .i64 0]) := by
 have hl : B.length = n + rest.length + 3 := by subst hB; simp [hc]
 have h0 : B[0]'(by omega) = t := by subst hB; rfl
 have h1 : B[1]'(by omega) = 129 := by subst hB; rfl
 have q0 : B[2]'(by omega) = x0 := by subst hB; rfl
 have v0 := x0.toNat_lt
 have hne : ¬ B = [] := by subst hB; simp
 have s1 : List.take n (List.drop 3 B) = c := by subst hB; subst hc; simp
 have s2 : List.take (3 + n) B = t :: 129 :: x0 :: c := by subst hB; subst hc; simp [Nat.add_comm 3, List.take_append]
 have s3 : List.drop (3 + n) B = rest := by subst hB; subst hc; simp [Nat.add_comm 3, List.drop_append]
 have s4 : List.take (B.length - (3 + n)) (List.drop (3 + n) B) = rest := by rw [s3]; exact List.take_of_length_le (by omega)
 have ht2 := t.toNat_lt
 have g1 : ¬ (t.toNat : Int) % 32 = 31 := by omega
 have g4 : (3 + (n : Int)).toNat = 3 + n := by omega
 have hk' : (x0.toNat : Int) = (n : Int) := by omega
 have g2 : ¬ (n : Int) < 128 := by omega
 have g3 : ¬ 131072 < (n : Int) := by omega
 clear hB
 refine pcall_body func140 rfl call140 ?_ ?_
 rotate_left 1
 refine awp_slots (s' := (.str B : V) :: zJ 98) rfl ?_; dsimp only [zJ]
 ·repeat' (first | ((first | refine Zu ?_ | (refine Zv ?_ ?_; (focus (simp [hne, h0, h1, q0, g1, g4, s1, s2, s4, hk', g2, g3]; done)))); intro K9 h9; simp (disch := first | exact dd | fail) [hne, h0, h1, q0, g1, g4, s1, s2, s4, hk', g2, g3]; refine Zm ?_; refine Zf h9 ?_; clear h9 K9) | refine Zt ?_ | (refine awp_rounds 5 fun KL hL => ?_) | refine Y8 fun K hK => ?_ | (apply hK; clear hK K) | ((first | refine Zk 1 [0, 0, 0, 0, 0, 0, 0, 0, 0, 0, 0, 0, 0, 0, 0, 0, 0, 0, 0, 1, 0, 0, 0] ?_ | refine Zk 1 [] ?_); refine Zl ?_) | (refine Yb rfl ?_ ?_ <;> intro hcnd <;> (try simp at hcnd) <;> try exact dc) | (refine Zn ?_ ?_; (focus (simp [hne, h0, h1, q0, g1, g4, s1, s2, s4, hk', g2, g3]; done)); refine Zs ?_) | refine Zx ?_ | clear hK K | (refine hL _ _ _ ?_) | (clear hK K) | (clear hL KL))
  simp
  exact .pure (by simp)
 ·exact .tup (by simp)
theorem read2_call (t x0 x1 : UInt8) (n : Nat) (c rest B : Bs) (ht : ¬ t.toNat % 32 = 31) (hk : 256 * x0.toNat + x1.toNat = n) (hn : 256 ≤ n) (hn2 : n ≤ 131072) (hB : B = t :: 130 :: x0 :: x1 :: (c ++ rest)) (hc : c.length = n) (hr : rest.length ≤ 1000000) :
  PCall prog 140 [.str B] (.tup [.agg [.int .i64 t.toNat, .str c, .str (t :: 130 :: x0 :: x1 :: c)], .str rest, .int .i64 0]) := by
 have hl : B.length = n + rest.length + 4 := by subst hB; simp [hc]
 have h0 : B[0]'(by omega) = t := by subst hB; rfl
 have h1 : B[1]'(by omega) = 130 := by subst hB; rfl
 have q0 : B[2]'(by omega) = x0 := by subst hB; rfl
 have v0 := x0.toNat_lt
 have q1 : B[3]'(by omega) = x1 := by subst hB; rfl
 have v1 := x1.toNat_lt
 have hne : ¬ B = [] := by subst hB; simp
 have s1 : List.take n (List.drop 4 B) = c := by subst hB; subst hc; simp
 have s2 : List.take (4 + n) B = t :: 130 :: x0 :: x1 :: c := by subst hB; subst hc; simp [Nat.add_comm 4, List.take_append]
 have s3 : List.drop (4 + n) B = rest := by subst hB; subst hc; simp [Nat.add_comm 4, List.drop_append]
 have s4 : List.take (B.length - (4 + n)) (List.drop (4 + n) B) = rest := by rw [s3]; exact List.take_of_length_le (by omega)
 have ht2 := t.toNat_lt
 have g1 : ¬ (t.toNat : Int) % 32 = 31 := by omega
 have g4 : (4 + (n : Int)).toNat = 4 + n := by omega
 have hk' : 256 * (x0.toNat : Int) + (x1.toNat : Int) = (n : Int) := by omega
 have g2 : ¬ (n : Int) < 256 := by omega
 have g3 : ¬ 131072 < (n : Int) := by omega
 clear hB
 refine pcall_body func140 rfl call140 ?_ ?_
 rotate_left 1
 refine awp_slots (s' := (.str B : V) :: zJ 98) rfl ?_; dsimp only [zJ]
 ·repeat' (first | ((first | refine Zu ?_ | (refine Zv ?_ ?_; (focus (simp [hne, h0, h1, q0, q1, g1, g4, s1, s2, s4, hk', g2, g3]; done)))); intro K9 h9; simp (disch := first | exact dd | fail) [hne, h0, h1, q0, q1, g1, g4, s1, s2, s4, hk', g2, g3]; refine Zm ?_; refine Zf h9 ?_; clear h9 K9) | refine Zt ?_ | (refine awp_rounds 5 fun KL hL => ?_) | refine Y8 fun K hK => ?_ | (apply hK; clear hK K) | ((first | refine Zk 1 [0, 0, 0, 0, 0, 0, 0, 0, 0, 0, 0, 0, 0, 0, 0, 0, 0, 0, 0, 1, 0, 0, 0] ?_ | refine Zk 1 [] ?_); refine Zl ?_) | (refine Yb rfl ?_ ?_ <;> intro hcnd <;> (try simp at hcnd) <;> try exact dc) | (refine Zn ?_ ?_; (focus (simp [hne, h0, h1, q0, q1, g1, g4, s1, s2, s4, hk', g2, g3]; done)); refine Zs ?_) | refine Zx ?_ | clear hK K | (refine hL _ _ _ ?_) | (clear hK K) | (clear hL KL))
  simp
  exact .pure (by simp)
 ·exact .tup (by simp)
theorem read_call (tag : Int) (c rest : Bs) (ht : TagOk tag) (hc : c.length < 65536) (hr : rest.length ≤ 1000000) : PCall prog 140 [.str (wr tag c ++ rest)] (.tup [.agg (wel tag c).c, .str rest, .int .i64 0]) := by
 have e0 := tag_nat ht
 have e1 := tag_int ht
 have e31 : ¬ (UInt8.ofNat tag.toNat).toNat % 32 = 31 := by rw [e0]; exact tag_31 ht
 have et : ((UInt8.ofNat tag.toNat).toNat : Int) = tag := by rw [e0, e1]
 rcases Nat.lt_or_ge c.length 128 with h | h
 ·have hw : wr tag c = UInt8.ofNat tag.toNat :: UInt8.ofNat c.length :: c := by
   unfold wr headB; rw [if_neg (by omega), if_neg (by omega), if_neg (by omega)]; rfl
  have := read0_call (UInt8.ofNat tag.toNat) (UInt8.ofNat c.length) c.length c rest (wr tag c ++ rest) e31 (u8n _ (by omega)) h (by rw [hw]; rfl) rfl hr
  rw [et, ← hw] at this
  exact this
 rcases Nat.lt_or_ge c.length 256 with h2 | h2
 ·have hw : wr tag c = UInt8.ofNat tag.toNat :: 129 :: UInt8.ofNat c.length :: c := by
   unfold wr headB; rw [if_neg (by omega), if_neg (by omega), if_pos h]; rfl
  have := read1_call (UInt8.ofNat tag.toNat) (UInt8.ofNat c.length) c.length c rest (wr tag c ++ rest) e31 (u8n _ (by omega)) h (by omega) (by rw [hw]; rfl) rfl hr
  rw [et, ← hw] at this
  exact this
 ·have hw : wr tag c = UInt8.ofNat tag.toNat :: 130 :: UInt8.ofNat (c.length / 256) :: UInt8.ofNat c.length :: c := by
   unfold wr headB; rw [if_neg (by omega), if_pos h2]; rfl
  have q1 : (UInt8.ofNat (c.length / 256)).toNat = c.length / 256 := u8n _ (by omega)
  have q2 : (UInt8.ofNat c.length).toNat = c.length % 256 := by simp [UInt8.toNat_ofNat']
  have := read2_call (UInt8.ofNat tag.toNat) (UInt8.ofNat (c.length / 256)) (UInt8.ofNat c.length) c.length c rest (wr tag c ++ rest) e31 (by rw [q1, q2]; omega) h2 (by omega) (by rw [hw]; rfl) rfl hr
  rw [et, ← hw] at this
  exact this

end Go.Proofs.YtnpndfmbkmbhbaaGreatDoor
namespace Go.Proofs.YtnpndfmbkmbhbaaGreatDoor
open Go.Proofs.Tryz
open Go.VS Go.Der
set_option linter.all false
attribute [local irreducible] arun arunD arunU AWp aend
theorem one_call (tag : Int) (c : Bs) (ht : TagOk tag) (hc : c.length < 65536) : PCall prog 102 [.str (wr tag c)] (.tup [.agg (wel tag c).c, .int .i64 0]) := by
 have hr := read_call tag c [] ht hc (by simp)
 rw [List.append_nil] at hr
 unfold wel El.c at *
 dsimp only at hr ⊢
 generalize wr tag c = B at *
 refine pcall_body func102 rfl call102 ?_ ?_
 rotate_left 1
 refine awp_slots (s' := (.str B : V) :: zJ 21) rfl ?_; dsimp only [zJ]
 ·repeat' (first | (refine Zu ?_; intro K9 h9; refine Zd ?_; ((first | refine Ap hr ?_ | skip) <;> (refine Zf h9 ?_; clear h9 K9))) | refine Zt ?_ | refine Y8 fun K hK => ?_ | (apply hK; clear hK K) | (refine Yb rfl ?_ ?_ <;> intro hcnd <;> (try simp at hcnd) <;> try exact dc) | refine Zx ?_ | clear hK K)
  simp
  exact .pure (by simp)
 ·exact .tup (by simp)
def TcS (l : List (Int × Bs)) : Prop := ∀ p ∈ l, TagOk p.1 ∧ p.2.length < 65536
theorem wrs_drop (l : List (Int × Bs)) (i : Nat) (h : i < l.length) : wrs (l.drop i) = wr l[i].1 l[i].2 ++ wrs (l.drop (i + 1)) := by
 rw [List.drop_eq_getElem_cons h]; rfl
theorem wels_take (l : List (Int × Bs)) (i : Nat) (h : i < l.length) : (wels (l.take (i + 1))).flatMap El.c = (wels (l.take i)).flatMap El.c ++ (wel l[i].1 l[i].2).c := by
 unfold wels
 rw [List.map_take, List.map_take, List.take_succ_eq_append_getElem (by simpa using h), List.flatMap_append]
 simp
theorem wrs_drop_le (l : List (Int × Bs)) : ∀ i, (wrs (l.drop i)).length ≤ (wrs l).length := by
 induction l with
 | nil => simp
 | cons p l ih =>
  intro i
  cases i with
  | zero => simp
  | succ i => have := ih i; simp only [List.drop_succ_cons, wrs, List.length_append]; omega
theorem list_call (l : List (Int × Bs)) (h : TcS l) (hn : (wrs l).length ≤ 1000000) : PCall prog 141 [.str (wrs l)] (.tup [.sl l.length ((wels l).flatMap El.c), .int .i64 0]) := by
 have hll : l.length ≤ (wrs l).length := by
  clear hn h
  induction l with
  | nil => simp
  | cons p l ih => have := @wr_len p.1 p.2; simp only [wrs, List.length_append, List.length_cons]; omega
 refine pcall_body func141 rfl call141 ?_ ?_
 rotate_left 1
 refine awp_slots (s' := (.str (wrs l) : V) :: zJ 25) rfl ?_; dsimp only [zJ]
 ·repeat' (first | refine Zq ?_ | refine Zt ?_ | refine Y8 fun K hK => ?_ | (apply hK; clear hK K) | (refine Yb rfl ?_ ?_ <;> intro hcnd <;> (try simp at hcnd) <;> try exact dc) | refine Zx ?_ | clear hK K)
  refine awp_countU (fun i => (some (V.str (wrs (l.drop i))) :: none :: zS 2 (some (V.osl 0 0 i 3) :: zS 21 []))) (fun i => [.live ((wels (l.take i)).flatMap El.c)]) l.length ?_ fun i hi KL hL => ?_
  ·dsimp only [ups, zN, zS]
   exact Yr [none] (by simp [rowsOver, wels])
  dsimp only [ups, zN, zS]
  rcases Nat.lt_or_ge i l.length with hi | hi
  ·have hp := h _ (List.getElem_mem hi)
   have hle := wrs_drop_le l (i + 1)
   have hrd := read_call l[i].1 l[i].2 (wrs (l.drop (i + 1))) hp.1 hp.2 (by omega)
   have hw := @wr_len l[i].1 l[i].2
   rw [← wrs_drop l i hi] at hrd
   have hle0 := wrs_drop_le l i
   have hpos : ¬ wrs (l.drop i) = [] := fun e => by
    have e2 := congrArg List.length (wrs_drop l i hi)
    rw [e, List.length_append, List.length_nil] at e2
    omega
   have htk := wels_take l i hi
   have hcl : ((wels (l.take i)).flatMap El.c).length = i * 3 := by
    rw [Go.Stp.flat_len (m := 3) (fun _ => rfl)]; simp [wels]; omega
   have ht2 : List.take (i * 3) ((wels (l.take i)).flatMap El.c) = (wels (l.take i)).flatMap El.c := List.take_of_length_le (by omega)
   unfold wel El.c at hrd
   dsimp only at hrd
   generalize wrs (l.drop i) = B at *
   repeat' (first | (refine Zu ?_; intro K9 h9; simp (disch := first | exact dd | fail) [hpos, hcl, ht2]; refine Zm ?_; ((first | refine Ap hrd ?_ | skip) <;> (refine Zf h9 ?_; clear h9 K9))) | refine Zt ?_ | refine Y8 fun K hK => ?_ | (apply hK; clear hK K) | (refine Yb rfl ?_ ?_ <;> intro hcnd <;> (try simp at hcnd) <;> try exact dc) | refine Zx ?_ | clear hK K)
   refine hL _ _ hi ?_
   have hps : Pures ((wels (l.take i)).flatMap El.c) := Go.Stp.flat_pures (fun e => by simp [El.c]) _
   refine Le.mk [some 3] (by dsimp only [ups, zN, zS]; simp) (rowsRen_of (by simp) ?_) (by simp)
   rw [htk]
   simp [rowsOver, rowRen_live, wel, El.c]
   refine (rens_pures ?_).2 trivial
   intro x hx
   rcases List.mem_append.1 hx with h | h
   ·exact hps x h
   ·simp at h
    rcases h with rfl | rfl | rfl <;> simp
  ·obtain rfl : i = l.length := by omega
   rw [List.drop_length, List.take_length]
   have hcl : ((wels l).flatMap El.c).length = l.length * 3 := by
    rw [Go.Stp.flat_len (m := 3) (fun _ => rfl)]; simp [wels]
   have e : List.take (l.length * 3) ((wels l).flatMap El.c) = (wels l).flatMap El.c := List.take_of_length_le (by omega)
   have hps : Pures ((wels l).flatMap El.c) := Go.Stp.flat_pures (fun e => by simp [El.c]) _
   have hw0 : wrs [] = [] := rfl
   rw [hw0]
   generalize (wels l).flatMap El.c = C at *
   refine awp_freeze' 0 rfl hps (by simp [fz, e, hcl]; rfl) (by simp [fzRow]; rfl) ?_
   repeat' (first | refine Zq ?_ | refine Zt ?_ | refine Y8 fun K hK => ?_ | (apply hK; clear hK K) | (refine Yb rfl ?_ ?_ <;> intro hcnd <;> (try simp at hcnd) <;> try exact dc) | refine Zx ?_ | clear hK K)

   exact .pure (by simp)
 ·exact .tup (by simp)
end Go.Proofs.YtnpndfmbkmbhbaaGreatDoor
