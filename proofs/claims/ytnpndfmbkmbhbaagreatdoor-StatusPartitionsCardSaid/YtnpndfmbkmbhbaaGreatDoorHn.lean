/-
 ENCODINGS: named bits encoded and decoded by the reference.
 Conditions: none.
-/
import Derived.Test.YtnpndfmbkmbhbaaGreatDoorHe
set_option maxRecDepth 100000
set_option maxHeartbeats 32000000
set_option linter.all false
namespace Go.Der
open Go.VS
def hiN (m k : Nat) : Nat := (List.range k).foldl (fun n i => if m / 2 ^ i % 2 = 1 then i + 1 else n) 0
def outN (m n k : Nat) : Bs :=
 (List.range k).foldl (fun o i => if m / 2 ^ i % 2 = 1 then o.set (1 + i / 8) (o.getD (1 + i / 8) 0 ||| UInt8.ofNat (128 / 2 ^ (i % 8))) else o)
  ((List.replicate (1 + (n + 7) / 8) 0).set 0 (UInt8.ofNat (8 * ((n + 7) / 8) - n)))
def putF (m : Nat) : Bs := outN m (hiN m 16) (hiN m 16)
theorem hiN_succ (m i : Nat) : hiN m (i + 1) = if m / 2 ^ i % 2 = 1 then i + 1 else hiN m i := by simp [hiN, List.range_succ]
theorem hiN_le (m : Nat) : ∀ k, hiN m k ≤ k
 | 0 => by simp [hiN]
 | k + 1 => by rw [hiN_succ]; have := hiN_le m k; split <;> omega
theorem outN_succ (m n i : Nat) : outN m n (i + 1) = if m / 2 ^ i % 2 = 1 then (outN m n i).set (1 + i / 8) ((outN m n i).getD (1 + i / 8) 0 ||| UInt8.ofNat (128 / 2 ^ (i % 8))) else outN m n i := by simp [outN, List.range_succ]
theorem outN_len (m n : Nat) : ∀ k, (outN m n k).length = 1 + (n + 7) / 8
 | 0 => by simp [outN]
 | k + 1 => by rw [outN_succ]; have := outN_len m n k; split <;> simp [this]
theorem or8 : ∀ b : Nat, b < 256 → ∀ s, s < 8 → bits .or .u8 (b : Int) ((128 : Int) / 2 ^ s) = ((b ||| 128 / 2 ^ s : Nat) : Int) := by decide +kernel
def flF (B : Bs) (k : Nat) : Int := (List.range k).foldl (fun (o : Int) (i : Nat) => if (B.getD (i / 8) 0).toNat / 2 ^ (7 - i % 8) % 2 = 1 then bits .or .i64 o ((2 ^ i : Nat) : Int) else o) 0
theorem flF_succ (B : Bs) (i : Nat) : flF B (i + 1) = if (B.getD (i / 8) 0).toNat / 2 ^ (7 - i % 8) % 2 = 1 then bits .or .i64 (flF B i) ((2 ^ i : Nat) : Int) else flF B i := by simp [flF, List.range_succ]
def flOk (B : Bs) (n : Nat) : Bool :=
 match B with
 | [u, x] => decide (u.toNat ≤ 7 ∧ x.toNat % 2 ^ u.toNat = 0 ∧ n + u.toNat = 8 ∧ x.toNat / 2 ^ u.toNat % 2 = 1)
 | [u, x, y] => decide (u.toNat ≤ 7 ∧ y.toNat % 2 ^ u.toNat = 0 ∧ n + u.toNat = 16 ∧ y.toNat / 2 ^ u.toNat % 2 = 1)
 | _ => false
theorem put_ok : ∀ m : Nat, m < 512 → 1 < m → flOk (putF m) (hiN m 16) = true ∧ flF ((putF m).drop 1) (hiN m 16) = m ∧ 1 ≤ hiN m 16 ∧ hiN m 16 ≤ 9 := by decide +kernel
end Go.Der
namespace Go.Proofs.YtnpndfmbkmbhbaaGreatDoor
open Go.Proofs.Tryz
open Go.VS Go.Der
attribute [local irreducible] arun arunD arunU AWp aend
theorem putFlags_call (m : Nat) (hm : m < 512) : PCall prog 137 [.int .i64 m] (.tup [.str (putF m), .int .i64 0]) := by
 have g1 : ¬ (m : Int) < 0 := by omega
 have g2 : ¬ 65535 < (m : Int) := by omega
 obtain ⟨n, hn⟩ : ∃ n, hiN m 16 = n := ⟨_, rfl⟩
 unfold putF
 rw [hn]
 refine pcall_body func137 rfl call137 ?_ ?_
 rotate_left 1
 refine awp_slots (s' := (.int .i64 m : V) :: zJ 61) rfl ?_; dsimp only [zJ]
 ·repeat' (first | ((first | refine ZuU ?_ | (refine ZvU ?_ ?_; (focus (simp [g1, g2]; done)))); intro K9 h9; simp (disch := first | exact dd | fail) [g1, g2]; refine Zm ?_; refine ZfU h9 ?_; clear h9 K9) | refine ZtU ?_ | refine Y8 fun K hK => ?_ | (apply hK; clear hK K) | (refine Zk 0 [] ?_; refine Zl ?_) | (refine Yb rfl ?_ ?_ <;> intro hcnd <;> (try simp at hcnd) <;> try exact dc) | (refine ZnU ?_ ?_; (focus (simp [g1, g2]; done)); refine ZsU ?_) | refine Zx ?_ | clear hK K)
  refine awp_countU (fun i => (zN 2 (zS 2 (some (V.int .i64 (hiN m i : Nat)) :: some (V.int .i64 i) :: zS 56 [])))) (fun i => []) 16 ?_ fun i hi KL hL => ?_
  ·dsimp only [ups, zN, zS]
   exact Le.drop (by simp [hiN])
  dsimp only [ups, zN, zS]
  rcases Nat.lt_or_ge i 16 with hi | hi
  ·have hs := hiN_succ m i
   have hh : (m : Int) / 2 ^ i = ((m / 2 ^ i : Nat) : Int) := by simp
   by_cases hb : m / 2 ^ i % 2 = 1
   ·have hb' : ((m / 2 ^ i : Nat) : Int) % 2 = 1 := by omega
    rw [if_pos hb] at hs
    generalize m / 2 ^ i = q at *
    repeat' (first | ((first | refine Zu ?_ | (refine Zv ?_ ?_; (focus (simp [hh, hb']; done)))); intro K9 h9; simp (disch := first | exact dd | fail) [hh, hb']; refine Zm ?_; refine Zf h9 ?_; clear h9 K9) | refine Zt ?_ | refine Y8 fun K hK => ?_ | (apply hK; clear hK K) | (refine Zk 0 [] ?_; refine Zl ?_) | (refine Yb rfl ?_ ?_ <;> intro hcnd <;> (try simp at hcnd) <;> try exact dc) | (refine Zn ?_ ?_; (focus (simp [hh, hb']; done)); refine Zs ?_) | refine Zx ?_ | clear hK K)
    refine hL _ _ hi ?_
    exact Le.drop (by dsimp only [ups, zN, zS]; simp [hs])
   ·have hb' : ¬ ((m / 2 ^ i : Nat) : Int) % 2 = 1 := by omega
    rw [if_neg hb] at hs
    generalize m / 2 ^ i = q at *
    repeat' (first | ((first | refine Zu ?_ | (refine Zv ?_ ?_; (focus (simp [hh, hb']; done)))); intro K9 h9; simp (disch := first | exact dd | fail) [hh, hb']; refine Zm ?_; refine Zf h9 ?_; clear h9 K9) | refine Zt ?_ | refine Y8 fun K hK => ?_ | (apply hK; clear hK K) | (refine Zk 0 [] ?_; refine Zl ?_) | (refine Yb rfl ?_ ?_ <;> intro hcnd <;> (try simp at hcnd) <;> try exact dc) | (refine Zn ?_ ?_; (focus (simp [hh, hb']; done)); refine Zs ?_) | refine Zx ?_ | clear hK K)
    refine hL _ _ hi ?_
    exact Le.drop (by dsimp only [ups, zN, zS]; simp [hs])
  obtain rfl : i = 16 := by omega
  have hle := hiN_le m 16
  rw [hn]
  have e1 : (1 + ((n : Int) + 7) / 8).toNat = 1 + (n + 7) / 8 := by omega
  have e2 : 8 * (((n : Int) + 7) / 8) - n = ((8 * ((n + 7) / 8) - n : Nat) : Int) := by omega
  have e3 : ∀ k : Nat, k < 256 → V.int .u8 (k : Int) = byteV (UInt8.ofNat k) := fun k hk => by
   unfold byteV; rw [show (UInt8.ofNat k).toNat = k from u8n k hk]
  have e4 : ((List.replicate (1 + (n + 7) / 8) (V.int .u8 0)).set 0 (V.int .u8 ((8 * ((n + 7) / 8) - n : Nat) : Int))) = (outN m n 0).map byteV := by
   rw [e3 _ (by omega)]
   simp [outN, List.map_set, byteV]
  repeat' (first | ((first | refine Zu ?_ | (refine Zv ?_ ?_; (focus (simp [e1, e2]; done)))); intro K9 h9; simp (disch := first | exact dd | fail) [e1, e2]; refine Zm ?_; refine Zf h9 ?_; clear h9 K9) | refine Zt ?_ | refine Y8 fun K hK => ?_ | (apply hK; clear hK K) | (refine Zk 0 [] ?_; refine Zl ?_) | (refine Yb rfl ?_ ?_ <;> intro hcnd <;> (try simp at hcnd) <;> try exact dc) | (refine Zn ?_ ?_; (focus (simp [e1, e2]; done)); refine Zs ?_) | refine Zx ?_ | clear hK K)
  refine awp_countU (fun i => (zN 2 (zS 2 (none :: some V.junk :: none :: some (V.int .i64 i) :: zS 54 [])))) (fun i => [.live ((outN m n i).map byteV)]) n ?_ fun i hi KL hL => ?_
  ·dsimp only [ups, zN, zS]
   exact Le.mk [some 0] (by simp) (rowsRen_of (by simp) (by rw [e4]; simp [rowsOver])) (by simp)
  dsimp only [ups, zN, zS]
  have hpl := outN_len m n i
  rcases Nat.lt_or_ge i n with hi | hi
  ·have hs := outN_succ m n i
   have hpl2 := outN_len m n (i + 1)
   have hh : (m : Int) / 2 ^ i = ((m / 2 ^ i : Nat) : Int) := by simp
   have hix : 1 + i / 8 < (outN m n i).length := by omega
   obtain ⟨b, hb⟩ : ∃ b, (outN m n i)[1 + i / 8] = b := ⟨_, rfl⟩
   rw [List.getD_eq_getElem?_getD, List.getElem?_eq_getElem hix, Option.getD_some, hb] at hs
   have ho := or8 b.toNat b.toNat_lt (i % 8) (by omega)
   have t1 : (1 + (i : Int) / 8).toNat = 1 + i / 8 := by omega
   have t2 : ((i : Int) % 8).toNat = i % 8 := by omega
   by_cases hq : m / 2 ^ i % 2 = 1
   ·have hq' : ((m / 2 ^ i : Nat) : Int) % 2 = 1 := by omega
    rw [if_pos hq] at hs
    rw [hs] at hL
    generalize outN m n i = Q at *
    generalize m / 2 ^ i = q at *
    have hlt : 128 / 2 ^ (i % 8) < 256 := Nat.lt_of_le_of_lt (Nat.div_le_self _ _) (by omega)
    have ho2 : ((b.toNat ||| 128 / 2 ^ (i % 8) : Nat) : Int) = ((b ||| UInt8.ofNat (128 / 2 ^ (i % 8))).toNat : Int) := by
     rw [UInt8.toNat_or, show (UInt8.ofNat (128 / 2 ^ (i % 8))).toNat = 128 / 2 ^ (i % 8) from u8n _ hlt]
    repeat' (first | ((first | refine Zu ?_ | (refine Zv ?_ ?_; (focus (simp [hh, hq', hpl, hb, t1, t2, ho]; done)))); intro K9 h9; simp (disch := first | exact dd | fail) [hh, hq', hpl, hb, t1, t2, ho]; refine Zm ?_; refine Zf h9 ?_; clear h9 K9) | refine Zt ?_ | refine Y8 fun K hK => ?_ | (apply hK; clear hK K) | (refine Zk 0 [] ?_; refine Zl ?_) | (refine Yb rfl ?_ ?_ <;> intro hcnd <;> (try simp at hcnd) <;> try exact dc) | (refine Zn ?_ ?_; (focus (simp [hh, hq', hpl, hb, t1, t2, ho]; done)); refine Zs ?_) | refine Zx ?_ | clear hK K)
    obtain ⟨Q2, hQ2⟩ : ∃ Q2, Q.set (1 + i / 8) (b ||| UInt8.ofNat (128 / 2 ^ (i % 8))) = Q2 := ⟨_, rfl⟩
    rw [hQ2] at hL
    refine hL _ _ hi ?_
    have e : (Q.map byteV).set (1 + i / 8) (.int .u8 ((b ||| UInt8.ofNat (128 / 2 ^ (i % 8))).toNat : Int)) = Q2.map byteV := by rw [← hQ2, List.map_set]; rfl
    exact Le.mk [some 0] (by dsimp only [ups, zN, zS]; simp) (rowsRen_of (by simp) (by rw [ho2, e]; simp [rowsOver])) (by simp)
   ·have hq' : ¬ ((m / 2 ^ i : Nat) : Int) % 2 = 1 := by omega
    rw [if_neg hq] at hs
    rw [hs] at hL
    generalize outN m n i = Q at *
    generalize m / 2 ^ i = q at *
    repeat' (first | ((first | refine Zu ?_ | (refine Zv ?_ ?_; (focus (simp [hh, hq']; done)))); intro K9 h9; simp (disch := first | exact dd | fail) [hh, hq']; refine Zm ?_; refine Zf h9 ?_; clear h9 K9) | refine Zt ?_ | refine Y8 fun K hK => ?_ | (apply hK; clear hK K) | (refine Zk 0 [] ?_; refine Zl ?_) | (refine Yb rfl ?_ ?_ <;> intro hcnd <;> (try simp at hcnd) <;> try exact dc) | (refine Zn ?_ ?_; (focus (simp [hh, hq']; done)); refine Zs ?_) | refine Zx ?_ | clear hK K)
    refine hL _ _ hi ?_
    exact Yr [some 0] (by simp [rowsOver])
  obtain rfl : i = n := by omega
  generalize outN m i i = Q at *
  have hB : List.take (1 + (i + 7) / 8) Q = Q := List.take_of_length_le (by omega)
  have hB1 := bytes_full (l := Q) (n := 1 + (i + 7) / 8) (by omega)
  repeat' (first | ((first | refine Zu ?_ | (refine Zv ?_ ?_; (focus (simp [hB, hB1]; done)))); intro K9 h9; simp (disch := first | exact dd | fail) [hB, hB1]; refine Zm ?_; refine Zf h9 ?_; clear h9 K9) | refine Zt ?_ | refine Y8 fun K hK => ?_ | (apply hK; clear hK K) | (refine Zk 0 [] ?_; refine Zl ?_) | (refine Yb rfl ?_ ?_ <;> intro hcnd <;> (try simp at hcnd) <;> try exact dc) | (refine Zn ?_ ?_; (focus (simp [hB, hB1]; done)); refine Zs ?_) | refine Zx ?_ | clear hK K)
  exact .pure (by simp)
 ·exact .tup (by simp)
end Go.Proofs.YtnpndfmbkmbhbaaGreatDoor
namespace Go.Der
open Go.VS
end Go.Der
namespace Go.Proofs.YtnpndfmbkmbhbaaGreatDoor
open Go.Proofs.Tryz
open Go.VS Go.Der
attribute [local irreducible] arun arunD arunU AWp aend DU.arunD
attribute [local simp] DU.gval
theorem bitsU_call (u z : UInt8) (s : Bs) (hs : s.length ≤ 1000) (hz : s.getLast? = some z) (hu : u.toNat ≤ 7) (hm : z.toNat % 2 ^ u.toNat = 0) : PCall prog 113 [.str (u :: s)] (.tup [.str s, .int .i64 u.toNat, .int .i64 0]) := by
 have g : ¬ (s.length : Int) + 1 = 0 := by omega
 have g1 : ¬ (7 : Int) < u.toNat := by omega
 have hne : s ≠ [] := fun e => by subst e; simp at hz
 have g2 : ¬ s.length = 0 := fun e => hne (List.length_eq_zero_iff.1 e)
 have g3 : (u :: s)[s.length]'(by simp) = z := by
  rw [List.getLast?_eq_getElem?] at hz
  obtain ⟨k, hk⟩ : ∃ k, s.length = k + 1 := ⟨s.length - 1, by omega⟩
  have h2 := (List.getElem?_eq_some_iff.1 hz).2
  simp only [hk, List.getElem_cons_succ]
  rw [← h2]
  congr 1
  omega
 have hz256 := z.toNat_lt
 obtain ⟨p, hp⟩ : ∃ p, 2 ^ u.toNat = p := ⟨_, rfl⟩
 have hp1 : p ≤ 128 := by rw [← hp]; exact Nat.pow_le_pow_right (n := 2) (by omega) hu
 have hp0 : 0 < p := by rw [← hp]; exact Nat.pow_pos (by omega)
 rw [hp] at hm
 have w1 : IntKind.i64.wrap (z.toNat : Int) = z.toNat := wrap_i64 (by omega) (by omega)
 have w2 : IntKind.i64.wrap ((2 : Int) ^ u.toNat) = p := by
  rw [show ((2 : Int) ^ u.toNat) = ((2 ^ u.toNat : Nat) : Int) by simp, hp]
  exact wrap_i64 (by omega) (by omega)
 have h2 : (z.toNat : Int) % p = 0 := by omega
 have h3 : ¬ p = 0 := by omega
 have g4 : ((s.length : Int) + 1 - 1) = s.length := by omega
 have g5 : ¬ (s.length : Int) + 1 = 1 := by omega
 by_cases hu0 : u.toNat = 0
 ·have hu1 : ¬ (0 : Int) < u.toNat := by omega
  have hu2 : ¬ 0 < u.toNat := by omega
  refine pcall_body func113 rfl call113 ?_ ?_
  rotate_left 1
  refine awp_slots (s' := (.str (u :: s) : V) :: zJ 40) rfl ?_; dsimp only [zJ]
  ·repeat' (first | ((first | refine ZuD ?_ | (refine ZvD ?_ ?_; (focus (simp [g, g1, hu1, hu2, g4]; done)))); intro K9 h9; simp (disch := first | exact dd | fail) [g, g1, hu1, hu2, g4]; refine Zm ?_; refine ZfD h9 ?_; clear h9 K9) | refine ZtD ?_ | refine Y8 fun K hK => ?_ | (apply hK; clear hK K) | (refine DU.Zk 1 [] ?_; refine Zl ?_) | (refine Yb rfl ?_ ?_ <;> intro hcnd <;> (try simp at hcnd) <;> try exact dc) | (refine ZnD ?_ ?_; (focus (simp [g, g1, hu1, hu2, g4]; done)); refine ZsD ?_) | refine Zx ?_ | clear hK K)
   exact .pure (by simp)
  ·exact .tup (by simp)
 ·have hu1 : (0 : Int) < u.toNat := by omega
  have hu2 : 0 < u.toNat := by omega
  refine pcall_body func113 rfl call113 ?_ ?_
  rotate_left 1
  refine awp_slots (s' := (.str (u :: s) : V) :: zJ 40) rfl ?_; dsimp only [zJ]
  ·repeat' (first | ((first | refine ZuD ?_ | (refine ZvD ?_ ?_; (focus (simp [g, g1, hu1, hu2, g2, g3, g4, g5, w1, w2, h2, h3]; done)))); intro K9 h9; simp (disch := first | exact dd | fail) [g, g1, hu1, hu2, g2, g3, g4, g5, w1, w2, h2, h3]; refine Zm ?_; refine ZfD h9 ?_; clear h9 K9) | refine ZtD ?_ | refine Y8 fun K hK => ?_ | (apply hK; clear hK K) | (refine DU.Zk 1 [] ?_; refine Zl ?_) | (refine Yb rfl ?_ ?_ <;> intro hcnd <;> (try simp at hcnd) <;> try exact dc) | (refine ZnD ?_ ?_; (focus (simp [g, g1, hu1, hu2, g2, g3, g4, g5, w1, w2, h2, h3]; done)); refine ZsD ?_) | refine Zx ?_ | clear hK K)
   exact .pure (by simp)
  ·exact .tup (by simp)
theorem nflags_call (u z : UInt8) (s : Bs) (n : Nat) (hs : s.length ≤ 2) (hz : s.getLast? = some z) (hu : u.toNat ≤ 7) (hm : z.toNat % 2 ^ u.toNat = 0) (hn : n + u.toNat = 8 * s.length) (h1 : 1 ≤ n) (hb : z.toNat / 2 ^ u.toNat % 2 = 1) : PCall prog 230 [.str (u :: s)] (.tup [.int .i64 (flF s n), .int .i64 0]) := by
 have hbc := bitsU_call u z s (by omega) hz hu hm
 have e1 : 8 * (s.length : Int) - u.toNat = n := by omega
 have g1 : (0 : Int) < n := by omega
 have g2 : ¬ (16 : Int) < n := by omega
 have g2b : ¬ 16 < n := by omega
 have g1b : 0 < n := by omega
 obtain ⟨qz, hqz⟩ : ∃ q, z.toNat / 2 ^ u.toNat = q := ⟨_, rfl⟩
 rw [hqz] at hb
 have hz2 : (z.toNat : Int) / 2 ^ u.toNat = (qz : Int) := by rw [← hqz]; simp
 have hb' : (qz : Int) % 2 = 1 := by omega
 have hl : s[s.length - 1]'(by have := g1b; omega) = z := by
  rw [List.getLast?_eq_getElem?] at hz
  exact (List.getElem?_eq_some_iff.1 hz).2
 have t0 : ((s.length : Int) - 1).toNat = s.length - 1 := by omega
 refine pcall_body func230 rfl call230 ?_ ?_
 rotate_left 1
 refine awp_slots (s' := (.str (u :: s) : V) :: zJ 58) rfl ?_; dsimp only [zJ]
 ·repeat' (first | ((first | refine ZuU ?_ | (refine ZvU ?_ ?_; (focus (simp [e1, g1, g2, g1b, g2b, hz2, hb', hl, t0]; done)))); intro K9 h9; simp (disch := first | exact dd | fail) [e1, g1, g2, g1b, g2b, hz2, hb', hl, t0]; refine Zm ?_; ((first | refine Ap hbc ?_ | skip) <;> (refine ZfU h9 ?_; clear h9 K9))) | refine ZtU ?_ | refine Y8 fun K hK => ?_ | (apply hK; clear hK K) | (refine Yb rfl ?_ ?_ <;> intro hcnd <;> (try simp at hcnd) <;> try exact dc) | (refine ZnU ?_ ?_; (focus (simp [e1, g1, g2, g1b, g2b, hz2, hb', hl, t0]; done)); refine ZsU ?_) | refine Zx ?_ | clear hK K)
  refine awp_countU (fun i => (some V.junk :: none :: zS 2 (none :: zS 2 (none :: some (V.int .i64 (flF s i)) :: some (V.int .i64 i) :: zS 49 [])))) (fun i => []) n ?_ fun i hi KL hL => ?_
  ·dsimp only [ups, zN, zS]
   exact Le.drop (by simp [flF])
  dsimp only [ups, zN, zS]
  rcases Nat.lt_or_ge i n with hi | hi
  ·have hsu := flF_succ s i
   have hx : i / 8 < s.length := by omega
   obtain ⟨b, hbb⟩ : ∃ b, s[i / 8] = b := ⟨_, rfl⟩
   rw [List.getD_eq_getElem?_getD, List.getElem?_eq_getElem hx, Option.getD_some, hbb] at hsu
   have t1 : ((i : Int) / 8).toNat = i / 8 := by omega
   have t2 : (7 - (i : Int) % 8).toNat = 7 - i % 8 := by omega
   have hh : (b.toNat : Int) / 2 ^ (7 - i % 8) = ((b.toNat / 2 ^ (7 - i % 8) : Nat) : Int) := by simp
   have hw : IntKind.i64.wrap ((2 : Int) ^ i) = (2 : Int) ^ i := by
    have h2 : 2 ^ i ≤ 65536 := Nat.le_trans (Nat.pow_le_pow_right (n := 2) (by omega) (show i ≤ 16 by omega)) (by decide)
    rw [show ((2 : Int) ^ i) = ((2 ^ i : Nat) : Int) by simp]
    generalize 2 ^ i = p at *
    exact wrap_i64 (by omega) (by omega)
   by_cases hq : b.toNat / 2 ^ (7 - i % 8) % 2 = 1
   ·have hq' : ((b.toNat / 2 ^ (7 - i % 8) : Nat) : Int) % 2 = 1 := by omega
    rw [if_pos hq] at hsu
    generalize b.toNat / 2 ^ (7 - i % 8) = q at *
    generalize flF s i = o at *
    repeat' (first | ((first | refine Zu ?_ | (refine Zv ?_ ?_; (focus (simp [hbb, t1, t2, hh, hq', hw]; done)))); intro K9 h9; simp (disch := first | exact dd | fail) [hbb, t1, t2, hh, hq', hw]; refine Zm ?_; refine Zf h9 ?_; clear h9 K9) | refine Zt ?_ | refine Y8 fun K hK => ?_ | (apply hK; clear hK K) | (refine Yb rfl ?_ ?_ <;> intro hcnd <;> (try simp at hcnd) <;> try exact dc) | (refine Zn ?_ ?_; (focus (simp [hbb, t1, t2, hh, hq', hw]; done)); refine Zs ?_) | refine Zx ?_ | clear hK K)
    refine hL _ _ hi ?_
    exact Le.drop (by dsimp only [ups, zN, zS]; simp [hsu])
   ·have hq' : ¬ ((b.toNat / 2 ^ (7 - i % 8) : Nat) : Int) % 2 = 1 := by omega
    rw [if_neg hq] at hsu
    generalize b.toNat / 2 ^ (7 - i % 8) = q at *
    generalize flF s i = o at *
    repeat' (first | ((first | refine Zu ?_ | (refine Zv ?_ ?_; (focus (simp [hbb, t1, t2, hh, hq']; done)))); intro K9 h9; simp (disch := first | exact dd | fail) [hbb, t1, t2, hh, hq']; refine Zm ?_; refine Zf h9 ?_; clear h9 K9) | refine Zt ?_ | refine Y8 fun K hK => ?_ | (apply hK; clear hK K) | (refine Yb rfl ?_ ?_ <;> intro hcnd <;> (try simp at hcnd) <;> try exact dc) | (refine Zn ?_ ?_; (focus (simp [hbb, t1, t2, hh, hq']; done)); refine Zs ?_) | refine Zx ?_ | clear hK K)
    refine hL _ _ hi ?_
    exact Le.drop (by dsimp only [ups, zN, zS]; simp [hsu])
  obtain rfl : i = n := by omega
  repeat' (first | refine Zr ?_ | refine Zt ?_ | refine Y8 fun K hK => ?_ | (apply hK; clear hK K) | (refine Yb rfl ?_ ?_ <;> intro hcnd <;> (try simp at hcnd) <;> try exact dc) | refine Zo ?_ | refine Zx ?_ | clear hK K)
  exact .pure (by simp)
 ·exact .tup (by simp)
end Go.Proofs.YtnpndfmbkmbhbaaGreatDoor
