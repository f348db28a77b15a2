/-
 CONTRACTS: what a signature names; Verify.
 Conditions: none.
-/
import Derived.Test.YtnpndfmbkmbhbaaGreatDoorGg
set_option maxRecDepth 100000
namespace Go.Proofs.YtnpndfmbkmbhbaaGreatDoor
open Go.Proofs.Tryz
open Go.VS
set_option linter.all false
attribute [local irreducible] arun arunD AWp aend shaS shaT
theorem or_add {a b : Nat} (i : Nat) (h1 : a % 2 ^ i = 0) (h2 : b < 2 ^ i) (h3 : a + b < 4611686018427387904) : bits .or .i64 (a : Int) (b : Int) = ((a + b : Nat) : Int) := by
 rw [(Go.VS.bits_nat (by simp; omega) (by simp; omega)).2.1]
 have e : a ||| b = a + b := by
  have := Nat.two_pow_add_eq_or_of_lt h2 (a / 2 ^ i)
  rw [Nat.mul_div_cancel' (Nat.dvd_of_mod_eq_zero h1)] at this
  exact this.symm
 rw [e, wrap_i64 (by omega) (by omega)]

def acc (b : List UInt8) : Nat → Nat
 | 0 => 0
 | k + 1 => acc b k * 256 + (b.getD k 0).toNat
theorem acc_lt (b : List UInt8) : ∀ k, acc b k < 256 ^ k
 | 0 => by simp [acc]
 | k + 1 => by
  have h := acc_lt b k
  have h2 : (b.getD k 0).toNat < 256 := UInt8.toNat_lt _
  rw [acc, Nat.pow_succ]; omega
theorem acc_lt4 (b : List UInt8) (k : Nat) (hk : k ≤ 4) : acc b k < 4294967296 := Nat.lt_of_lt_of_le (acc_lt b k) (Nat.le_trans (Nat.pow_le_pow_right (by omega) hk) (by omega))
theorem acc_or (b : List UInt8) (k : Nat) (hk : k < 4) (hb : k < b.length) : bits .or .i64 ((acc b k : Int) * 256) (b[k].toNat : Int) = (acc b (k + 1) : Int) := by
 have h := acc_lt4 b k (by omega)
 have h2 : (b[k]).toNat < 256 := UInt8.toNat_lt _
 have := or_add (a := acc b k * 256) (b := (b[k]).toNat) 8 (by omega) (by omega) (by omega)
 rw [acc, List.getD_eq_getElem?_getD, List.getElem?_eq_getElem hb, ← show ((acc b k * 256 : Nat) : Int) = (acc b k : Int) * 256 by omega, this]
 rfl
theorem acc_leafN (s : List UInt8) : (acc s 4 : Int) = leafN s := by simp only [acc, leafN]; omega
theorem acc_take (s : List UInt8) (n : Nat) : ∀ k, k ≤ n → acc (s.take n) k = acc s k
 | 0, _ => rfl
 | k + 1, hk => by
  rw [acc, acc, acc_take s n k (by omega)]
  simp [List.getD_eq_getElem?_getD, show k < n by omega]

theorem leaf_call (s : List UInt8) (hs : s.length ≤ 140737488355328) : PCall prog 156 [.str s] (leafV s) := by
 refine pcall_body func156 rfl call156 ?_ ?_
 rotate_left 1
 refine awp_slots (s' := (.str s : V) :: zJ 24) rfl ?_; dsimp only [zJ]
 by_cases h4 : s.length < 4
 ·have h4' : (s.length : Int) < 4 := by omega
  repeat' (first | (refine Zu ?_; intro K9 h9; simp (disch := first | exact dd | fail) [h4']; refine Zm ?_; refine Zf h9 ?_; clear h9 K9) | refine Zt ?_ | refine Y8 fun K hK => ?_ | (apply hK; clear hK K) | (refine Yb rfl ?_ ?_ <;> intro hcnd <;> (try simp at hcnd) <;> try exact dc) | refine Zx ?_ | clear hK K)
  rw [leafV, if_pos h4]
  simp
  exact .pure (by simp)
 ·have h4' : ¬ (s.length : Int) < 4 := by omega
  have htl : (s.take 4).length = 4 := by simp; omega
  have hal := acc_leafN s
  rw [← acc_take s 4 4 (by omega)] at hal
  rw [leafV, if_neg h4, ← hal]
  repeat' (first | (refine Zu ?_; intro K9 h9; simp (disch := first | exact dd | fail) [h4']; refine Zm ?_; refine Zf h9 ?_; clear h9 K9) | refine Zt ?_ | refine Y8 fun K hK => ?_ | (apply hK; clear hK K) | (refine Yb rfl ?_ ?_ <;> intro hcnd <;> (try simp at hcnd) <;> try exact dc) | refine Zx ?_ | clear hK K)
  refine awp_countU (fun k => (some V.junk :: none :: zS 2 (some (V.int .i64 (acc (s.take 4) k)) :: none :: zS 6 (zN 2 (some (V.int .i64 k) :: zS 10 []))))) (fun k => [.live ((s.take 4).map byteV)]) 4 ?_ fun k hk KL hL => ?_
  ·dsimp only [ups, zN, zS]
   exact Le.mk [some 0] (by simp [acc]) (rowsRen_of (by simp) (by simp [rowsOver, pures_take])) (by simp)
  dsimp only [ups, zN, zS]
  generalize s.take 4 = b at *
  have ha := acc_lt4 b k hk
  rcases Nat.lt_or_ge k 4 with hk | hk
  ·have ho := acc_or b k hk (by omega)
   have h2 : (b[k]).toNat < 256 := UInt8.toNat_lt _
   repeat' (first | (refine Zu ?_; intro K9 h9; simp (disch := first | exact dd | fail) [ho, htl]; refine Zm ?_; refine Zf h9 ?_; clear h9 K9) | refine Zt ?_ | refine Y8 fun K hK => ?_ | (apply hK; clear hK K) | (refine Yb rfl ?_ ?_ <;> intro hcnd <;> (try simp at hcnd) <;> try exact dc) | refine Zx ?_ | clear hK K)
   refine hL _ _ hk ?_
   exact Yr [some 0] (by simp [rowsOver])
  obtain rfl : k = 4 := by omega
  repeat' (first | (refine Zu ?_; intro K9 h9; simp (disch := first | exact dd | fail) [htl]; refine Zm ?_; refine Zf h9 ?_; clear h9 K9) | refine Zt ?_ | refine Y8 fun K hK => ?_ | (apply hK; clear hK K) | (refine Yb rfl ?_ ?_ <;> intro hcnd <;> (try simp at hcnd) <;> try exact dc) | refine Zx ?_ | clear hK K)
  simp
  exact .pure (by simp)
 ·unfold leafV; split <;> simp

end Go.Proofs.YtnpndfmbkmbhbaaGreatDoor
namespace Go.Proofs.YtnpndfmbkmbhbaaGreatDoor
open Go.Proofs.Tryz
open Go.VS
set_option linter.all false
attribute [local irreducible] arun arunD AWp aend shaS shaT leafN verE
theorem verE_key {h : Int} {id root m s : List UInt8} (e : keyE h id root ≠ 0) : verE h id root m s = 18 := by rw [verE, if_pos e]
theorem keyE_18 {h : Int} {id root : List UInt8} (e : keyE h id root ≠ 0) : keyE h id root = 18 := by
 unfold keyE at *; split at * <;> simp_all
theorem verE_form {h : Int} {id root m s : List UInt8} (e : keyE h id root = 0) (f : s.length ≠ 564 + 16 * h.toNat ∨ ((2 ^ h.toNat : Nat) : Int) ≤ leafN s) : verE h id root m s = 17 := by rw [verE, if_neg (by omega), if_pos f]
set_option maxHeartbeats 4000000 in
theorem verify_call (h : Int) (id root m s : List UInt8) (hi : id.length ≤ 140737488355328) (hr : root.length ≤ 140737488355328) (hm : m.length ≤ 1000) (hs : s.length ≤ 140737488355328) :
  PCall prog 120 [.agg [.int .i64 h, .str id, .str root], .str m, .str s] (.int .i64 (verE h id root m s)) := by
 refine pcall_body func120 rfl call120 ?_ ?_
 rotate_left 1
 refine awp_slots (s' := (.agg [.int .i64 h, .str id, .str root] : V) :: (.str m : V) :: (.str s : V) :: zJ 92) rfl ?_; dsimp only [zJ]
 have hck := check_call h id root hi hr
 by_cases hk : keyE h id root = 0
 ·obtain ⟨k1, k2, k3, k4⟩ := keyE_zero hk
  rw [hk] at hck
  obtain ⟨n, rfl⟩ := Int.eq_ofNat_of_zero_le k1
  have hlf := leaf_call s hs
  have hn8 : n ≤ 8 := by omega
  have hsl := shl_one n hn8
  have h256 := pow_le_256 hn8
  by_cases hl : (s.length : Int) = 564 + n * 16
  ·have hlv : leafV s = .tup [.int .i64 (leafN s), .bool true] := by rw [leafV, if_neg (by omega)]
   rw [hlv] at hlf
   obtain ⟨b1, b2⟩ := leafN_bounds s
   by_cases hb : leafN s < ((2 ^ n : Nat) : Int)
   ·have hve : verE n id root m s = if climb id (s.drop 564) (leafN s).toNat (pubS id (leafN s) (recs id (leafN s) (digM id root (leafN s) m) ((s.drop 4).take 560) 35)) n = root then 0 else 17 := by
     rw [verE, if_neg (by omega), Int.toNat_natCast, if_neg (by omega)]
    obtain ⟨f, hf⟩ := Int.eq_ofNat_of_zero_le b1
    rw [hve]
    rw [hf] at hlf hb ⊢
    have hdg := mdigest_call n id root f m (by omega) (by omega) hm
    have hrc := recover_call id f (digM id root f m) ((s.drop 4).take 560) hi (by simp) (by simp; omega)
    have hrv : recV id f (digM id root f m) ((s.drop 4).take 560) = .tup [.str (pubS id f (recs id f (digM id root f m) ((s.drop 4).take 560) 35)), .int .i64 0] := by
     rw [recV, if_neg (by unfold leafE; rw [if_neg (by omega), if_neg (by omega)]; omega), if_neg (by simp), if_neg (by simp; omega)]
    rw [hrv] at hrc
    have hpl : (pubS id f (recs id f (digM id root f m) ((s.drop 4).take 560) 35)).length = 16 := by rw [pubS, shaT_length]
    rw [Int.toNat_natCast]
    have hrl : List.take (s.length - 564) (List.drop 564 s) = List.drop 564 s := List.take_of_length_le (by simp)
    have hdl : (List.drop 564 s).length = 16 * n := by simp; omega
    obtain ⟨v0, hv0⟩ : ∃ v0, pubS id f (recs id f (digM id root f m) ((s.drop 4).take 560) 35) = v0 := ⟨_, rfl⟩
    rw [hv0] at hrc hpl ⊢
    obtain ⟨p, hp⟩ : ∃ p, 2 ^ n = p := ⟨_, rfl⟩
    rw [hp] at hb hsl h256
    have hb' : f < p := by omega
    clear hrv hlv hve hv0
    repeat' (first | (refine Zu ?_; intro K9 h9; simp (disch := first | exact dd | fail) [hl, hb', hsl, hrl]; refine Zm ?_; ((first | refine Ap hck ?_ | refine Ap hlf ?_ | refine Ap hdg ?_ | refine Ap hrc ?_ | skip) <;> (refine Zf h9 ?_; clear h9 K9))) | refine Zt ?_ | refine Y8 fun K hK => ?_ | (apply hK; clear hK K) | (refine Zk 0 [] ?_; refine Zl ?_) | (refine Yb rfl ?_ ?_ <;> intro hcnd <;> (try simp at hcnd) <;> try exact dc) | refine Zx ?_ | clear hK K)
    refine awp_countU (fun k => (zS 3 (zN 3 (zS 4 (some (V.str (climb id (s.drop 564) f v0 k)) :: some V.junk :: none :: some (V.int .i64 k) :: some (V.int .i64 ((f / 2 ^ k : Nat) : Int)) :: zS 80 []))))) (fun k => [.live [.int .i64 n, .str id, .str root]]) n ?_ fun k hk KL hL => ?_
    ·dsimp only [ups, zN, zS]
     exact Le.mk [some 0] (by simp [climb]) (rowsRen_of (by simp) (by simp [rowsOver])) (by simp)
    dsimp only [ups, zN, zS]
    have hcl := climb_length id (s.drop 564) f v0 hpl k
    rcases Nat.lt_or_ge k n with hk | hk
    ·have hq : f / 2 ^ k < 256 := Nat.lt_of_le_of_lt (Nat.div_le_self _ _) (by omega)
     have hdd : f / 2 ^ (k + 1) = f / 2 ^ k / 2 := by rw [Nat.pow_succ, Nat.div_div_eq_div_mul]
     have hcs : climb id (s.drop 564) f v0 (k + 1) = if f / 2 ^ k % 2 = 0 then parS id (k : Int) ((f / 2 ^ k / 2 : Nat) : Int) (climb id (s.drop 564) f v0 k) (sib (s.drop 564) k) else parS id (k : Int) ((f / 2 ^ k / 2 : Nat) : Int) (sib (s.drop 564) k) (climb id (s.drop 564) f v0 k) := rfl
     have hsb : (List.drop (16 * k) (List.drop 564 s)).take 16 = sib (s.drop 564) k := rfl
     have hsl2 : (sib (s.drop 564) k).length = 16 := by simp [sib]; omega
     rw [hcs, hdd] at hL
     clear hcs
     generalize f / 2 ^ k = q at *
     generalize List.drop 564 s = rest at *
     generalize climb id rest f v0 k = c at *
     generalize sib rest k = sb at *
     have t1 : ((k : Int) * 16).toNat = 16 * k := by omega
     have t2 : (((k : Int) + 1) * 16).toNat - 16 * k = 16 := by omega
     by_cases hpar : q % 2 = 0
     ·rw [if_pos hpar] at hL
      have hpar' : (q : Int) % 2 = 0 := by omega
      have hpc := parent_call id k ((q / 2 : Nat) : Int) c sb (by omega) (by omega) (by omega)
      repeat' (first | (refine Zu ?_; intro K9 h9; simp (disch := first | exact dd | fail) [hpar', t1, t2, hsb]; refine Zm ?_; ((first | refine Ap hpc ?_ | skip) <;> (refine Zf h9 ?_; clear h9 K9))) | refine Zt ?_ | refine Y8 fun K hK => ?_ | (apply hK; clear hK K) | (refine Zk 0 [] ?_; refine Zl ?_) | (refine Yb rfl ?_ ?_ <;> intro hcnd <;> (try simp at hcnd) <;> try exact dc) | refine Zx ?_ | clear hK K)
      refine hL _ _ hk ?_
      exact Yr [some 0] (by simp [rowsOver])
     ·rw [if_neg hpar] at hL
      have hpar' : (q : Int) % 2 = 1 := by omega
      have hpc := parent_call id k ((q / 2 : Nat) : Int) sb c (by omega) (by omega) (by omega)
      repeat' (first | (refine Zu ?_; intro K9 h9; simp (disch := first | exact dd | fail) [hpar', t1, t2, hsb]; refine Zm ?_; ((first | refine Ap hpc ?_ | skip) <;> (refine Zf h9 ?_; clear h9 K9))) | refine Zt ?_ | refine Y8 fun K hK => ?_ | (apply hK; clear hK K) | (refine Zk 0 [] ?_; refine Zl ?_) | (refine Yb rfl ?_ ?_ <;> intro hcnd <;> (try simp at hcnd) <;> try exact dc) | refine Zx ?_ | clear hK K)
      refine hL _ _ hk ?_
      exact Yr [some 0] (by simp [rowsOver])
    obtain rfl : k = n := by omega
    by_cases hroot : climb id (s.drop 564) f v0 k = root
    ·repeat' (first | (refine Zu ?_; intro K9 h9; simp (disch := first | exact dd | fail) [hroot]; refine Zm ?_; refine Zf h9 ?_; clear h9 K9) | refine Zt ?_ | refine Y8 fun K hK => ?_ | (apply hK; clear hK K) | (refine Zk 0 [] ?_; refine Zl ?_) | (refine Yb rfl ?_ ?_ <;> intro hcnd <;> (try simp at hcnd) <;> try exact dc) | refine Zx ?_ | clear hK K)
     simp [hroot]
     exact .pure .int
    ·repeat' (first | (refine Zu ?_; intro K9 h9; simp (disch := first | exact dd | fail) [hroot]; refine Zm ?_; refine Zf h9 ?_; clear h9 K9) | refine Zt ?_ | refine Y8 fun K hK => ?_ | (apply hK; clear hK K) | (refine Zk 0 [] ?_; refine Zl ?_) | (refine Yb rfl ?_ ?_ <;> intro hcnd <;> (try simp at hcnd) <;> try exact dc) | refine Zx ?_ | clear hK K)
     simp [hroot]
     exact .pure .int
   ·rw [verE_form hk (by right; rw [Int.toNat_natCast]; omega)]
    obtain ⟨f, hf⟩ := Int.eq_ofNat_of_zero_le b1
    rw [hf] at hlf hb
    obtain ⟨p, hp⟩ : ∃ p, 2 ^ n = p := ⟨_, rfl⟩
    rw [hp] at hb hsl h256
    have hb' : ¬ f < p := by omega
    clear hlv
    repeat' (first | (refine Zu ?_; intro K9 h9; simp (disch := first | exact dd | fail) [hl, hb', hsl]; refine Zm ?_; ((first | refine Ap hck ?_ | refine Ap hlf ?_ | skip) <;> (refine Zf h9 ?_; clear h9 K9))) | refine Zt ?_ | refine Y8 fun K hK => ?_ | (apply hK; clear hK K) | (refine Zk 0 [] ?_; refine Zl ?_) | (refine Yb rfl ?_ ?_ <;> intro hcnd <;> (try simp at hcnd) <;> try exact dc) | refine Zx ?_ | clear hK K)
    simp
    exact .pure .int
  ·rw [verE_form hk (by left; omega)]
   repeat' (first | (refine Zu ?_; intro K9 h9; simp (disch := first | exact dd | fail) [hl]; refine Zm ?_; ((first | refine Ap hck ?_ | skip) <;> (refine Zf h9 ?_; clear h9 K9))) | refine Zt ?_ | refine Y8 fun K hK => ?_ | (apply hK; clear hK K) | (refine Zk 0 [] ?_; refine Zl ?_) | (refine Yb rfl ?_ ?_ <;> intro hcnd <;> (try simp at hcnd) <;> try exact dc) | refine Zx ?_ | clear hK K)
   simp
   exact .pure .int
 ·rw [verE_key hk]
  rw [keyE_18 hk] at hck
  repeat' (first | (refine Zu ?_; intro K9 h9; refine Zd ?_; ((first | refine Ap hck ?_ | skip) <;> (refine Zf h9 ?_; clear h9 K9))) | refine Zt ?_ | refine Y8 fun K hK => ?_ | (apply hK; clear hK K) | (refine Zk 0 [] ?_; refine Zl ?_) | (refine Yb rfl ?_ ?_ <;> intro hcnd <;> (try simp at hcnd) <;> try exact dc) | refine Zx ?_ | clear hK K)
  simp
  exact .pure .int
 ·exact .int
end Go.Proofs.YtnpndfmbkmbhbaaGreatDoor
namespace Go.Proofs.YtnpndfmbkmbhbaaGreatDoor
open Go.Proofs.Tryz
open Go.VS
set_option linter.all false
attribute [local irreducible] arun arunD AWp aend shaS shaT
def rtV (seed : List UInt8) (h : Nat) : V := .agg [.str seed, .str (idS seed), .sl (h + 1) (lvVs seed h (h + 1))]
@[simp] theorem rtV_pure (seed : List UInt8) (h : Nat) : (rtV seed h).Pure := by simp [rtV]

set_option maxHeartbeats 4000000 in
theorem rgenerate_call (seed : List UInt8) (h : Nat) (hs : seed.length = 32) (hh : h ≤ 8) : PCall prog 62 [.str seed, .int .i64 h] (.tup [rtV seed h, .int .i64 0]) := by
 refine pcall_body func62 rfl call62 ?_ ?_
 rotate_left 1
 refine awp_slots (s' := (.str seed : V) :: (.int .i64 h : V) :: zJ 93) rfl ?_; dsimp only [zJ]
 have hsl := shl_one h hh
 have h256 := pow_le_256 hh
 have hid := idS_length seed
 obtain ⟨p, hp⟩ : ∃ p, 2 ^ h = p := ⟨_, rfl⟩
 have hl0 : lvl (idS seed) seed h 0 = lv0 (idS seed) seed p := by rw [lvl, hp]
 rw [hp] at hsl h256
 have hsh := rshort_call [[73], seed] (by simp) (by simp; omega)
 rw [show shaT [[73], seed].flatten = idS seed by simp [idS]] at hsh
 repeat' (first | ((first | refine Zu ?_ | (refine Zv ?_ ?_; (focus (simp [hs]; done)))); intro K9 h9; simp (disch := first | exact dd | fail) [hs]; refine Zm ?_; ((first | refine acall_view hsh ⟨view_row rfl (by simp) (by simp), trivial⟩ .str ?_ | skip) <;> (refine Zf h9 ?_; clear h9 K9))) | refine Zt ?_ | refine Y8 fun K hK => ?_ | (apply hK; clear hK K) | (refine Zk 3 [] ?_; refine Zl ?_) | (refine Yb rfl ?_ ?_ <;> intro hcnd <;> (try simp at hcnd) <;> try exact dc) | (refine Zn ?_ ?_; (focus (simp [hs]; done)); refine Zs ?_) | refine Zx ?_ | clear hK K)
 refine awp_countU (fun k => (zN 5 (some V.junk :: some (V.ref 1 0) :: some (V.osl 2 0 k 1) :: some (V.int .i64 k) :: zS 86 []))) (fun k => [.live [.str [], .str [], .nils], .live [.str seed, .str (idS seed), .nils], .live ((lv0 (idS seed) seed k).map V.str)]) p ?_ fun k hk KL hL => ?_
 ·dsimp only [ups, zN, zS]
  exact Yr [some 0, some 2, none] (by simp [rowsOver, lv0])
 dsimp only [ups, zN, zS]
 have e4 : List.take k (List.map V.str (lv0 (idS seed) seed k)) = List.map V.str (lv0 (idS seed) seed k) := List.take_of_length_le (by simp)
 rcases Nat.lt_or_ge k p with hk | hk
 ·have hpv := pubV_leaf (idS seed) seed k hid hs (by omega)
  have hop := ropublic_call (idS seed) seed k (by simp) (by omega)
  rw [hpv] at hop
  clear hpv
  repeat' (first | ((first | refine Zu ?_ | (refine Zv ?_ ?_; (focus (simp [hsl, e4]; done)))); intro K9 h9; simp (disch := first | exact dd | fail) [hsl, e4]; refine Zm ?_; ((first | refine Ap hop ?_ | skip) <;> (refine Zf h9 ?_; clear h9 K9))) | refine Zt ?_ | refine Y8 fun K hK => ?_ | (apply hK; clear hK K) | (refine Zk 3 [] ?_; refine Zl ?_) | (refine Yb rfl ?_ ?_ <;> intro hcnd <;> (try simp at hcnd) <;> try exact dc) | (refine Zn ?_ ?_; (focus (simp [hsl, e4]; done)); refine Zs ?_) | refine Zx ?_ | clear hK K)
  refine hL _ _ hk ?_
  exact Yr [some 0, some 1, some 4] (by simp [rowsOver, lv0_succ])
 obtain rfl : k = p := by omega
 refine awp_freeze' 2 rfl (by simp) (by simp [fz, e4]; rfl) (by simp [fzRow, fz]; rfl) ?_
 repeat' (first | ((first | refine Zu ?_ | (refine Zv ?_ ?_; (focus (simp [hsl]; done)))); intro K9 h9; simp (disch := first | exact dd | fail) [hsl]; refine Zm ?_; refine Zf h9 ?_; clear h9 K9) | refine Zt ?_ | refine Y8 fun K hK => ?_ | (apply hK; clear hK K) | (refine Zk 3 [] ?_; refine Zl ?_) | (refine Yb rfl ?_ ?_ <;> intro hcnd <;> (try simp at hcnd) <;> try exact dc) | (refine Zn ?_ ?_; (focus (simp [hsl]; done)); refine Zs ?_) | refine Zx ?_ | clear hK K)
 refine awp_countU (fun l => (some V.junk :: zN 4 (some V.junk :: none :: some (strsV (lvl (idS seed) seed h l)) :: zS 3 (some (V.int .i64 l) :: zS 83 [])))) (fun l => [.live [.str [], .str [], .nils], .live [.str seed, .str (idS seed), .osl 2 0 (l + 1) 1], .live (lvVs seed h (l + 1))]) h ?_ fun l hl KO hO => ?_
 ·dsimp only [ups, zN, zS]
  exact Le.mk [some 0, some 1, some 4] (by simp [strsV, hl0]) (rowsRen_of (by simp) (by simp [rowsOver, rowRen_live, lvVs, strsV, hl0])) (by simp)
 dsimp only [ups, zN, zS]
 have e5 : List.take (l + 1) (lvVs seed h (l + 1)) = lvVs seed h (l + 1) := List.take_of_length_le (by simp)
 rcases Nat.lt_or_ge l h with hl | hl
 ·have hlen := lvl_length (idS seed) seed h l (by omega)
  have h16 := lvl_16 (idS seed) seed h l
  have hpl : (lvl (idS seed) seed h l).length ≤ 256 := by rw [hlen]; exact pow_le_256 (by omega)
  have hvs := lvVs_succ seed h (l + 1)
  rw [show lvl (idS seed) seed h (l + 1) = nx (idS seed) l (lvl (idS seed) seed h l) ((lvl (idS seed) seed h l).length / 2) from rfl] at hvs hO
  have hol : (lvVs seed h (l + 1)).all V.one = true := by
   rw [List.all_eq_true]; intro x hx; obtain ⟨j, -, rfl⟩ := List.mem_map.1 hx; rfl
  have hvp := lvVs_pures seed h (l + 1)
  have hvl := lvVs_length seed h (l + 1)
  rw [hvs] at hO
  generalize lvl (idS seed) seed h l = L at *
  generalize lvVs seed h (l + 1) = Z at *
  unfold strsV
  repeat' (first | refine Zr ?_ | refine Zt ?_ | refine Y8 fun K hK => ?_ | (apply hK; clear hK K) | (refine Zk 3 [] ?_; refine Zl ?_) | (refine Yb rfl ?_ ?_ <;> intro hcnd <;> (try simp at hcnd) <;> try exact dc) | refine Zo ?_ | refine Zx ?_ | clear hK K)
  refine awp_countU (fun k => (some V.junk :: zN 4 (some V.junk :: zN 2 (zS 3 (none :: some (V.osl 3 0 k 1) :: some (V.int .i64 ((2 * k : Nat) : Int)) :: zS 81 []))))) (fun k => [.live [.str [], .str [], .nils], .live [.str seed, .str (idS seed), .osl 2 0 (l + 1) 1], .live Z, .live ((nx (idS seed) l L k).map V.str)]) (L.length / 2) ?_ fun k hk KL hL => ?_
  ·dsimp only [ups, zN, zS]
   exact Yr [some 0, some 1, some 2, none] (by simp [rowsOver, rowRen_live, hvp, nx])
  dsimp only [ups, zN, zS]
  have e6 : List.take k (List.map V.str (nx (idS seed) l L k)) = List.map V.str (nx (idS seed) l L k) := List.take_of_length_le (by simp)
  rcases Nat.lt_or_ge k (L.length / 2) with hk | hk
  ·have b1 : 2 * k < L.length := by omega
   have b2 : 2 * k + 1 < L.length := by omega
   have hn := nx_succ (idS seed) l L k
   rw [getD_get b1, getD_get b2] at hn
   have q1 := h16 _ (List.getElem_mem b1)
   have q2 := h16 _ (List.getElem_mem b2)
   have t1 : ((2 : Int) * (k : Int)).toNat = 2 * k := by omega
   have t2 : ((2 : Int) * (k : Int) + 1).toNat = 2 * k + 1 := by omega
   have t3 : ((2 : Int) * (k : Int)) / 2 = k := by omega
   have hps := rshort_call [[78], idS seed, b1S l, wbytes k, L[2 * k], L[2 * k + 1]] (by simp) (by simp; omega)
   rw [show shaT [[78], idS seed, b1S l, wbytes k, L[2 * k], L[2 * k + 1]].flatten = parS (idS seed) l k L[2 * k] L[2 * k + 1] by simp [parS]] at hps
   repeat' (first | ((first | refine Zu ?_ | (refine Zv ?_ ?_; (focus (simp [e6, t1, t2, t3]; done)))); intro K9 h9; simp (disch := first | exact dd | fail) [e6, t1, t2, t3]; refine Zm ?_; ((first | refine Ap (rb4_call _) ?_ | refine Ap (rb1_call _) ?_ | refine acall_view hps ⟨view_row rfl (by simp) (by simp), trivial⟩ .str ?_ | skip) <;> (refine Zf h9 ?_; clear h9 K9))) | refine Zt ?_ | refine Y8 fun K hK => ?_ | (apply hK; clear hK K) | (refine Zk 3 [] ?_; refine Zl ?_) | (refine Yb rfl ?_ ?_ <;> intro hcnd <;> (try simp at hcnd) <;> try exact dc) | (refine Zn ?_ ?_; (focus (simp [e6, t1, t2, t3]; done)); refine Zs ?_) | refine Zx ?_ | clear hK K)
   refine hL _ _ hk ?_
   exact Yr [some 0, some 1, some 2, some 6] (by simp [rowsOver, rowRen_live, hvp, hn])
  obtain rfl : k = L.length / 2 := by omega
  refine awp_freeze' 3 rfl (by simp) (by simp [fz, e6]; rfl) (by simp [fzRow, fz, fz_map hvp]; rfl) ?_
  repeat' (first | ((first | refine Zu ?_ | (refine Zv ?_ ?_; (focus (simp [e5, hvl, hol]; done)))); intro K9 h9; simp (disch := first | exact dd | fail) [e5, hvl, hol]; refine Zm ?_; refine Zf h9 ?_; clear h9 K9) | refine Zt ?_ | refine Y8 fun K hK => ?_ | (apply hK; clear hK K) | (refine Zk 3 [] ?_; refine Zl ?_) | (refine Yb rfl ?_ ?_ <;> intro hcnd <;> (try simp at hcnd) <;> try exact dc) | (refine Zn ?_ ?_; (focus (simp [e5, hvl, hol]; done)); refine Zs ?_) | refine Zx ?_ | clear hK K)
  refine hO _ _ hl ?_
  exact Le.mk [some 0, some 1, some 5] (by dsimp only [ups, zN, zS]; simp [strsV]) (rowsRen_of (by simp) (by simp [rowsOver, rowRen_live, hvp, strsV])) (by simp)
 obtain rfl : l = h := by omega
 refine awp_freeze' 2 rfl (lvVs_pures seed l (l + 1)) (by simp [fz, e5]; rfl) (by simp [fzRow, fz, e5]; rfl) ?_
 repeat' (first | refine Zr ?_ | refine Zt ?_ | refine Y8 fun K hK => ?_ | (apply hK; clear hK K) | (refine Zk 3 [] ?_; refine Zl ?_) | (refine Yb rfl ?_ ?_ <;> intro hcnd <;> (try simp at hcnd) <;> try exact dc) | refine Zo ?_ | refine Zx ?_ | clear hK K)
 simp [rtV]
 exact .pure (by simp)
 ·simp
end Go.Proofs.YtnpndfmbkmbhbaaGreatDoor
namespace Go.Proofs.YtnpndfmbkmbhbaaGreatDoor
open Go.Proofs.Tryz
open Go.VS
set_option linter.all false
attribute [local irreducible] arun arunD AWp aend shaS shaT
theorem lvVs_get' (seed : List UInt8) (h k l : Nat) (hl : l < k) : (lvVs seed h k)[l]'(by simpa using hl) = .sl (lvl (idS seed) seed h l).length ((lvl (idS seed) seed h l).map V.str) := by
 have := lvVs_get seed h k l hl
 rw [List.getElem?_eq_getElem (by simpa using hl)] at this
 exact Option.some.inj this
theorem lvVs_top (seed : List UInt8) (h : Nat) : (lvVs seed h (h + 1))[h]'(by simp) = .sl 1 [.str (rootS (idS seed) seed h)] := by
 rw [lvVs_get' seed h (h + 1) h (by omega), lvl_top]; rfl

theorem keyOf_call (seed : List UInt8) (h : Nat) (hh : h ≤ 8) : PCall prog 34 [rtV seed h] (keyV h (idS seed) (rootS (idS seed) seed h)) := by
 refine pcall_body func34 rfl call34 ?_ ?_
 rotate_left 1
 refine awp_slots (s' := (rtV seed h : V) :: zJ 18) rfl ?_; dsimp only [zJ]
 have hg := lvVs_top seed h
 unfold rtV
 repeat' (first | (refine Zu ?_; intro K9 h9; simp (disch := first | exact dd | fail) [hg]; refine Zm ?_; refine Zf h9 ?_; clear h9 K9) | refine Zt ?_ | refine Y8 fun K hK => ?_ | (apply hK; clear hK K) | (refine Zk 0 [] ?_; refine Zl ?_) | refine Zx ?_ | clear hK K)
 ·simp [keyV]
  exact .pure (by simp)
 ·simp

theorem tree_call (k : Int) (h : Nat) (hh : h ≤ 8) : PCall prog 33 [.int .i64 k, .int .i64 h] (rtV (mseedS k) h) := by
 refine pcall_body func33 rfl call33 ?_ ?_
 rotate_left 1
 refine awp_slots (s' := (.int .i64 k : V) :: (.int .i64 h : V) :: zJ 13) rfl ?_; dsimp only [zJ]
 have hrg := rgenerate_call (mseedS k) h (by simp) hh
 unfold rtV at *
 repeat' (first | (refine Zu ?_; intro K9 h9; refine Zd ?_; ((first | refine Ap (mseed_call _) ?_ | refine Ap hrg ?_ | skip) <;> (refine Zf h9 ?_; clear h9 K9))) | refine Zt ?_ | refine Y8 fun K hK => ?_ | (apply hK; clear hK K) | refine Zx ?_ | clear hK K)
 ·simp
  exact .pure (by simp)
 ·simp

set_option maxHeartbeats 4000000 in
theorem signTree_call (seed : List UInt8) (h : Nat) (leaf : Nat) (m : List UInt8) (hs : seed.length = 32) (hh : h ≤ 8) (hf : leaf < 2 ^ h) (hm : m.length ≤ 1000) :
  PCall prog 30 [rtV seed h, .int .i64 leaf, .str m] (.tup [.str (sgnS seed h leaf m), .int .i64 0]) := by
 refine pcall_body func30 rfl call30 ?_ ?_
 rotate_left 1
 refine awp_slots (s' := (rtV seed h : V) :: (.int .i64 leaf : V) :: (.str m : V) :: zJ 66) rfl ?_; dsimp only [zJ]
 have h256 := pow_le_256 hh
 have hv := sigV_ok (idS seed) seed leaf (digM (idS seed) (rootS (idS seed) seed h) leaf m) (idS_length seed) hs (by omega) (digM_length _ _ _ _)
 have hsg := rsign_call (idS seed) seed leaf (digM (idS seed) (rootS (idS seed) seed h) leaf m) (by simp) (by omega) (by simp)
 rw [hv] at hsg
 have hvl := vF_length (idS seed) seed leaf (digM (idS seed) (rootS (idS seed) seed h) leaf m) 35
 have hS : sgnS seed h leaf m = wbytes leaf ++ vF (idS seed) seed leaf (digM (idS seed) (rootS (idS seed) seed h) leaf m) 35 ++ auth (idS seed) seed h leaf h := rfl
 obtain ⟨ov, hov⟩ : ∃ ov, vF (idS seed) seed leaf (digM (idS seed) (rootS (idS seed) seed h) leaf m) 35 = ov := ⟨_, rfl⟩
 rw [hov] at hsg hvl hS
 rw [hS]
 clear hv hov hS
 have hxx : ∀ k, k < h → xr (leaf / 2 ^ k) < 2 ^ (h - k) := fun k hk => xr_lt hk hf
 have hq : ∀ k, leaf / 2 ^ k < 256 := fun k => Nat.lt_of_le_of_lt (Nat.div_le_self _ _) (by omega)
 have hg0 := lvVs_get' seed h (h + 1) 0 (by omega)
 have hl0 := lvl_length (idS seed) seed h 0 (by omega)
 rw [hl0, Nat.sub_zero] at hg0
 have hko := keyOf_call seed h hh
 have hsh := rshort_call [[77], idS seed, rootS (idS seed) seed h, wbytes leaf, m] (by simp) (by simp; omega)
 rw [show shaT [[77], idS seed, rootS (idS seed) seed h, wbytes leaf, m].flatten = digM (idS seed) (rootS (idS seed) seed h) leaf m by simp [digM]] at hsh
 have hfs : leaf < 2 ^ h := hf
 obtain ⟨p, hp⟩ : ∃ p, 2 ^ h = p := ⟨_, rfl⟩
 rw [hp] at hg0 h256 hf
 unfold rtV keyV at *
 repeat' (first | ((first | refine Zu ?_ | (refine Zv ?_ ?_; (focus (simp [hg0]; done)))); intro K9 h9; simp (disch := first | exact dd | fail) [hg0]; refine Zm ?_; ((first | refine Ap hko ?_ | refine Ap (rb4_call _) ?_ | refine acall_view hsh ⟨view_row rfl (by simp) (by simp), trivial⟩ .str ?_ | refine Ap hsg ?_ | skip) <;> (refine Zf h9 ?_; clear h9 K9))) | refine Zt ?_ | refine Y8 fun K hK => ?_ | (apply hK; clear hK K) | (refine Zk 1 [] ?_; refine Zl ?_) | (refine Yb rfl ?_ ?_ <;> intro hcnd <;> (try simp at hcnd) <;> try exact dc) | (refine Zn ?_ ?_; (focus (simp [hg0]; done)); refine Zs ?_) | refine Zx ?_ | clear hK K)
 refine awp_countU (fun k => (zS 3 (zN 3 (zS 2 (none :: some (V.str (wbytes leaf ++ ov ++ auth (idS seed) seed h leaf k)) :: some V.junk :: some (V.int .i64 k) :: some (V.int .i64 ((leaf / 2 ^ k : Nat) : Int)) :: zS 56 []))))) (fun k => [.live [.str seed, .str (idS seed), .sl (h + 1) (lvVs seed h (h + 1))], .live [.int .i64 h, .str (idS seed), .str (rootS (idS seed) seed h)]]) h ?_ fun k hk KL hL => ?_
 ·dsimp only [ups, zN, zS]
  exact Le.mk [some 0, some 1] (by simp [auth]) (rowsRen_of (by simp) (by simp [rowsOver])) (by simp)
 dsimp only [ups, zN, zS]
 have hal := auth_length (idS seed) seed h leaf hfs k hk
 rcases Nat.lt_or_ge k h with hk | hk
 ·have hlg := lvVs_get' seed h (h + 1) k (by omega)
  have hll := lvl_length (idS seed) seed h k (by omega)
  have h16 := lvl_16 (idS seed) seed h k
  have hx1 := hxx k hk
  have hb := xr_bits (leaf / 2 ^ k) (hq k)
  have hqk := hq k
  have ha := auth_succ (idS seed) seed h leaf k
  have hdd : leaf / 2 ^ (k + 1) = leaf / 2 ^ k / 2 := by rw [Nat.pow_succ, Nat.div_div_eq_div_mul]
  unfold node at ha
  rw [hdd, ha] at hL
  generalize lvl (idS seed) seed h k = L at *
  generalize leaf / 2 ^ k = q at *
  have b1 : xr q < L.length := by omega
  rw [getD_get b1] at hL
  have q1 := h16 _ (List.getElem_mem b1)
  generalize xr q = y at *
  repeat' (first | ((first | refine Zu ?_ | (refine Zv ?_ ?_; (focus (simp [hlg, hb]; done)))); intro K9 h9; simp (disch := first | exact dd | fail) [hlg, hb]; refine Zm ?_; refine Zf h9 ?_; clear h9 K9) | refine Zt ?_ | refine Y8 fun K hK => ?_ | (apply hK; clear hK K) | (refine Zk 1 [] ?_; refine Zl ?_) | (refine Yb rfl ?_ ?_ <;> intro hcnd <;> (try simp at hcnd) <;> try exact dc) | (refine Zn ?_ ?_; (focus (simp [hlg, hb]; done)); refine Zs ?_) | refine Zx ?_ | clear hK K)
  refine hL _ _ hk ?_
  exact Yr [some 0, some 1] (by simp [rowsOver])
 obtain rfl : k = h := by omega
 repeat' (first | refine Zr ?_ | refine Zt ?_ | refine Y8 fun K hK => ?_ | (apply hK; clear hK K) | (refine Zk 1 [] ?_; refine Zl ?_) | (refine Yb rfl ?_ ?_ <;> intro hcnd <;> (try simp at hcnd) <;> try exact dc) | refine Zo ?_ | refine Zx ?_ | clear hK K)
 simp
 exact .pure (by simp)
 ·simp

end Go.Proofs.YtnpndfmbkmbhbaaGreatDoor
