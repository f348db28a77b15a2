/-
 CONTRACTS: Sum and Short.
 Conditions: none.
-/
import Derived.Test.YtnpndfmbkmbhbaaGreatDoorGe
set_option maxRecDepth 100000
namespace Go.Proofs.YtnpndfmbkmbhbaaGreatDoor
open Go.Proofs.Tryz
open Go.VS
set_option linter.all false
attribute [local irreducible] arun arunD AWp aend
theorem flat_succ (l : List (List UInt8)) (i : Nat) (h : i < l.length) : (l.take (i + 1)).flatten = (l.take i).flatten ++ l[i] := by
 rw [List.take_succ_eq_append_getElem h, List.flatten_append]; simp
theorem flat_le (l : List (List UInt8)) (i : Nat) (h : i < l.length) : (l.take i).flatten.length + (l[i]).length ≤ l.flatten.length := by
 have h1 : l.flatten.length = (l.take (i + 1)).flatten.length + (l.drop (i + 1)).flatten.length := by
  rw [← List.length_append, ← List.flatten_append, List.take_append_drop]
 rw [h1, flat_succ l i h, List.length_append]; omega
@[simp] theorem outB_length (h : List Int) : (outB h).length = 4 * h.length := by rw [← ob_all h h.length (Nat.le_refl _), ob_length _ _ (Nat.le_refl _)]
@[simp] theorem shaS_length (l : List UInt8) : (shaS l).length = 32 := by simp [shaS]
theorem stOf_ne (l : List UInt8) : stOf l ≠ [] := by simp [stOf, stR]

theorem hsum_call (l : List (List UInt8)) (hl : l.length ≤ 1099511627776) (ht : l.flatten.length ≤ 1099511627776) : PCall prog 218 [.sl l.length (l.map V.str)] (.str (shaS l.flatten)) := by
 refine pcall_body func218 rfl call218 ?_ ?_
 rotate_left 1
 refine awp_slots (s' := (.sl l.length (l.map V.str) : V) :: zJ 18) rfl ?_; dsimp only [zJ]
 repeat' (first | (refine Zu ?_; intro K9 h9; refine Zd ?_; ((first | refine acall_new start_call (by simp) (by simp) ?_ | skip) <;> (refine Zf h9 ?_; clear h9 K9))) | refine Zt ?_ | refine Y8 fun K hK => ?_ | (apply hK; clear hK K) | (refine Yb rfl ?_ ?_ <;> intro hcnd <;> (try simp at hcnd) <;> try exact dc) | refine Zx ?_ | clear hK K)
 ·refine awp_countU (fun i => (some V.junk :: none :: some V.junk :: zN 2 (zS 2 (zN 2 (some (V.int .i64 i) :: zS 9 []))))) (fun i => [.live (stOf (l.take i).flatten)]) l.length ?_ fun i hi KL hL => ?_
  ·dsimp only [ups, zN, zS]
   exact Yr [some 0] (by simp [rowsOver])
  dsimp only [ups, zN, zS]
  rcases Nat.lt_or_ge i l.length with hi | hi
  ·have hle := flat_le l i hi
   repeat' (first | (refine Zu ?_; intro K9 h9; refine Zd ?_; ((first | refine acall_mut 0 (write_call (l.take i).flatten l[i] (by omega)) rfl (by simp) (by simp) (.tup (by simp)) (by simp) ?_ | skip) <;> (refine Zf h9 ?_; clear h9 K9))) | refine Zt ?_ | refine Y8 fun K hK => ?_ | (apply hK; clear hK K) | (refine Yb rfl ?_ ?_ <;> intro hcnd <;> (try simp at hcnd) <;> try exact dc) | refine Zx ?_ | clear hK K)
   refine hL _ _ hi ?_
   exact Yr [some 0] (by simp [rowsOver, flat_succ l i hi])
  obtain rfl : i = l.length := by omega
  rw [List.take_length]
  repeat' (first | (refine Zu ?_; intro K9 h9; refine Zd ?_; ((first | refine acall_view (sum_call l.flatten ht _ (.inl rfl)) ⟨view_ref rfl (stOf_ne _) (stOf_pures _), trivial⟩ .str ?_ | skip) <;> (refine Zf h9 ?_; clear h9 K9))) | refine Zt ?_ | refine Y8 fun K hK => ?_ | (apply hK; clear hK K) | (refine Yb rfl ?_ ?_ <;> intro hcnd <;> (try simp at hcnd) <;> try exact dc) | refine Zx ?_ | clear hK K)
  simp
  exact .pure .str
 ·exact .str

def shaT (l : List UInt8) : List UInt8 := (shaS l).take 16
theorem hshort_call (l : List (List UInt8)) (hl : l.length ≤ 1099511627776) (ht : l.flatten.length ≤ 1099511627776) : PCall prog 188 [.sl l.length (l.map V.str)] (.str (shaT l.flatten)) := by
 refine pcall_body func188 rfl call188 ?_ ?_
 rotate_left 1
 refine awp_slots (s' := (.sl l.length (l.map V.str) : V) :: zJ 5) rfl ?_; dsimp only [zJ]
 repeat' (first | (refine Zu ?_; intro K9 h9; refine Zd ?_; ((first | refine Ap (hsum_call l hl ht) ?_ | skip) <;> (refine Zf h9 ?_; clear h9 K9))) | refine Zt ?_ | refine Y8 fun K hK => ?_ | (apply hK; clear hK K) | refine Zx ?_ | clear hK K)
 ·simp
  exact .pure .str
 ·exact .str
end Go.Proofs.YtnpndfmbkmbhbaaGreatDoor
namespace Go.Proofs.YtnpndfmbkmbhbaaGreatDoor
open Go.Proofs.Tryz
open Go.VS
set_option linter.all false
attribute [local irreducible] arun arunD AWp aend
def tl8 (n : Nat) : Nat → List UInt8
 | 0 => List.replicate 8 0
 | i + 1 => (tl8 n i).set (7 - i) (be8 n (7 - i))
def ftail (n i : Nat) : List UInt8 := 128 :: List.replicate (padZ n) 0 ++ tl8 n i
@[simp] theorem tl8_length (n i : Nat) : (tl8 n i).length = 8 := by
 induction i with
 | zero => simp [tl8]
 | succ i ih => simp [tl8, ih]
@[simp] theorem ftail_length (n i : Nat) : (ftail n i).length = 9 + padZ n := by simp [ftail]; omega
theorem ftail_succ (n i : Nat) (h : i < 8) : ftail n (i + 1) = (ftail n i).set (8 + padZ n - i) (be8 n (7 - i)) := by
 rw [ftail, ftail, List.set_append_right _ _ (by simp; omega), tl8]
 congr 2
 simp; omega
theorem tl8_all (n : Nat) : tl8 n 8 = (List.range 8).map (be8 n) := rfl
theorem ftail_all (n : Nat) : ftail n 8 = padS n := by rw [ftail, tl8_all, padS]

theorem be8_int' (n i : Nat) (hi : i < 8) : V.int .u8 (IntKind.u8.wrap (8 * (n : Int) / 2 ^ (8 * (i : Int)).toNat)) = byteV (be8 n (7 - i)) := by
 rw [← be8_int n (7 - i) (by omega), Int.mul_comm 8 (n : Int), show (8 * (i : Int)).toNat = (8 * (7 - ((7 - i : Nat) : Int))).toNat by omega]

def rr (v : List Int) (i : Nat) : List V := if i = 0 then List.replicate 32 (.int .u8 0) else (ob v i).map byteV
theorem rr_take (v : List Int) (i : Nat) (h : i ≤ v.length) : List.take (4 * i) (rr v i) = (ob v i).map byteV := by
 unfold rr
 split
 ·rename_i e; subst e; simp [ob]
 ·rw [bytes_full (by rw [ob_length v i h]; omega)]
theorem rr_succ (v : List Int) (i : Nat) : rr v (i + 1) = (ob v (i + 1)).map byteV := by simp [rr]
theorem rr_length (v : List Int) (i : Nat) (h : i ≤ v.length) : 4 * i ≤ (rr v i).length := by
 unfold rr
 split
 ·rename_i e; subst e; simp
 ·simp [ob_length v i h]

def catN (l : List (List UInt8)) (i : Nat) : List UInt8 := (l.take i).flatten
theorem catN_succ (l : List (List UInt8)) (i : Nat) (h : i < l.length) : catN l (i + 1) = catN l i ++ l[i] := flat_succ l i h

set_option maxHeartbeats 4000000 in
theorem rsum_call (l : List (List UInt8)) (hl : l.length ≤ 1099511627776) (ht : l.flatten.length ≤ 1099511627776) : PCall prog 101 [.sl l.length (l.map V.str)] (.str (shaS l.flatten)) := by
 refine pcall_body func101 rfl call101 ?_ ?_
 rotate_left 1
 refine awp_slots (s' := (.sl l.length (l.map V.str) : V) :: zJ 96) rfl ?_; dsimp only [zJ]
 repeat' (first | refine Zq ?_ | refine Zt ?_ | refine Y8 fun K hK => ?_ | (apply hK; clear hK K) | (refine Yb rfl ?_ ?_ <;> intro hcnd <;> (try simp at hcnd) <;> try exact dc) | refine Zx ?_ | clear hK K)
 ·refine awp_countU (fun i => (some V.junk :: none :: some V.junk :: some (V.str (catN l i)) :: none :: zS 8 (none :: some V.junk :: zN 2 (some (V.int .i64 i) :: zS 79 [])))) (fun i => []) l.length ?_ fun i hi KL hL => ?_
  ·dsimp only [ups, zN, zS]
   exact Le.drop (by simp [catN])
  dsimp only [ups, zN, zS]
  rcases Nat.lt_or_ge i l.length with hi | hi
  ·have hle : (catN l i).length + (l[i]).length ≤ l.flatten.length := flat_le l i hi
   repeat' (first | refine Zq ?_ | refine Zt ?_ | refine Y8 fun K hK => ?_ | (apply hK; clear hK K) | (refine Yb rfl ?_ ?_ <;> intro hcnd <;> (try simp at hcnd) <;> try exact dc) | refine Zx ?_ | clear hK K)
   refine hL _ _ hi ?_
   exact Le.drop (by dsimp only [ups, zN, zS]; simp [catN_succ l i hi])
  obtain rfl : i = l.length := by omega
  rw [catN, List.take_length]
  generalize l.flatten = L at *
  iterate 31 (first | refine Zq ?_ | refine Zt ?_ | refine Y8 fun K hK => ?_ | (apply hK; clear hK K) | (refine Yb rfl ?_ ?_ <;> intro hcnd <;> (try simp at hcnd) <;> try exact dc) | refine Zx ?_ | (clear hK K; first | (apply hK; clear hK K) | (clear hK K; first | (apply hK; clear hK K) | (clear hK K; first | (apply hK; clear hK K) | (clear hK K; apply hK; clear hK K)))))
  have hz : padZ L.length < 64 := Nat.mod_lt _ (by omega)
  refine awp_seq' fun K hK hL => ?_
  have main : K ((V.junk :: V.junk :: V.junk :: (V.str L) :: V.junk :: V.junk :: (V.osl 0 0 8 1) :: (V.int .i64 L.length) :: (V.int .i64 (padZ L.length)) :: V.junk :: V.junk :: V.junk :: V.junk :: V.junk :: V.junk :: V.junk :: V.junk :: V.junk :: V.junk :: V.junk :: V.junk :: V.junk :: V.junk :: V.junk :: V.junk :: V.junk :: V.junk :: V.junk :: V.junk :: V.junk :: V.junk :: V.junk :: V.junk :: V.junk :: V.junk :: V.junk :: V.junk :: V.junk :: V.junk :: V.junk :: V.junk :: V.junk :: V.junk :: V.junk :: V.junk :: V.junk :: V.junk :: V.junk :: V.junk :: V.junk :: V.junk :: V.junk :: V.junk :: V.junk :: V.junk :: V.junk :: V.junk :: V.junk :: V.junk :: V.junk :: V.junk :: V.junk :: V.junk :: V.junk :: V.junk :: V.junk :: V.junk :: V.junk :: V.junk :: V.junk :: V.junk :: V.junk :: V.junk :: V.junk :: V.junk :: V.junk :: V.junk :: V.junk :: V.junk :: V.junk :: V.junk :: V.junk :: V.junk :: V.junk :: V.junk :: V.junk :: V.junk :: V.junk :: V.junk :: V.junk :: V.junk :: V.junk :: V.junk :: V.junk :: V.junk :: V.junk :: V.junk :: [])) [.live (u32s h0L)] := by
   refine hK _ _ ?_
   clear hK hL K
   repeat' (first | refine Zq ?_ | refine Zt ?_ | refine Y8 fun K hK => ?_ | (apply hK; clear hK K) | (refine Yb rfl ?_ ?_ <;> intro hcnd <;> (try simp at hcnd) <;> try exact dc) | refine Zx ?_ | clear hK K)
   have hn : (9 + (padZ L.length : Int)).toNat = 9 + padZ L.length := by omega
   rw [hn]
   have hr0 : (List.replicate (9 + padZ L.length) (V.int .u8 0)).set 0 (V.int .u8 128) = (ftail L.length 0).map byteV := by
    have : ftail L.length 0 = (List.replicate (9 + padZ L.length) 0).set 0 128 := by
     rw [ftail, tl8, show 9 + padZ L.length = padZ L.length + 8 + 1 by omega, show List.replicate (padZ L.length + 8 + 1) (0 : UInt8) = 0 :: List.replicate (padZ L.length + 8) 0 from rfl, List.set_cons_zero, ← List.replicate_append_replicate]; rfl
    rw [this, List.map_set, List.map_replicate]; rfl
   rw [hr0]
   refine awp_countU (fun i => (some V.junk :: none :: some V.junk :: zN 2 (some V.junk :: zN 2 (some V.junk :: none :: some (V.int .i64 i) :: zS 2 (none :: zS 83 []))))) (fun i => [.live (u32s h0L), .live ((ftail L.length i).map byteV)]) 8 ?_ fun i hi KL hL => ?_
   ·dsimp only [ups, zN, zS]
    exact Yr [some 0, some 1] (by simp [rowsOver])
   dsimp only [ups, zN, zS]
   rcases Nat.lt_or_ge i 8 with hi | hi
   ·have hs : (ftail L.length (i + 1)).map byteV = ((ftail L.length i).map byteV).set (8 + padZ L.length - i) (V.int .u8 (IntKind.u8.wrap (8 * (L.length : Int) / 2 ^ (8 * (i : Int)).toNat))) := by
     rw [be8_int' _ i hi, ftail_succ _ i hi, List.map_set]
    repeat' (first | (refine Zu ?_; intro K9 h9; simp (disch := first | exact dd | fail) [hn]; refine Zm ?_; refine Zf h9 ?_; clear h9 K9) | refine Zt ?_ | refine Y8 fun K hK => ?_ | (apply hK; clear hK K) | (refine Yb rfl ?_ ?_ <;> intro hcnd <;> (try simp at hcnd) <;> try exact dc) | refine Zx ?_ | clear hK K)
    refine hL _ _ hi ?_
    rw [← hs]
    exact Yr [some 0, some 1] (by simp [rowsOver])
   obtain rfl : i = 8 := by omega
   have hpl := padS_length L.length
   repeat' (first | (refine Zu ?_; intro K9 h9; simp (disch := first | exact dd | fail) [ftail_all, List.take_of_length_le, hpl]; refine Zm ?_; refine Zf h9 ?_; clear h9 K9) | refine Zt ?_ | refine Y8 fun K hK => ?_ | (apply hK; clear hK K) | (refine Yb rfl ?_ ?_ <;> intro hcnd <;> (try simp at hcnd) <;> try exact dc) | refine Zx ?_ | clear hK K)
   refine awp_freeze' 0 rfl (u32s_pures _) (by simp [fz, List.take_of_length_le]; rfl) (by simp [fzRow, fz]; rfl) ?_
   obtain ⟨B, hB⟩ : ∃ B, B = L ++ padS L.length := ⟨_, rfl⟩
   have hBl : B.length = L.length + (padS L.length).length := by simp [hB]
   have hBd : B.length % 64 = 0 := by rw [hBl]; exact pad_dvd L.length
   rw [← hB]
   refine awp_countU (fun k => (some V.junk :: none :: some V.junk :: zN 2 (some V.junk :: some (V.sl 8 (u32s (comp h0L B k))) :: zS 4 (some (V.int .i64 (64 * k)) :: some V.junk :: none :: zS 83 [])))) (fun k => []) (B.length / 64) ?_ fun k hk KL hL => ?_
   ·dsimp only [ups, zN, zS]
    exact Le.drop (by simp [comp])
   dsimp only [ups, zN, zS]
   rcases Nat.lt_or_ge k (B.length / 64) with hk | hk
   ·have e0 : (64 * (k : Int)).toNat = 64 * k := by omega
    have e1 : (64 * (k : Int) + 64).toNat = 64 * k + 64 := by omega
    repeat' (first | (refine Zu ?_; intro K9 h9; simp (disch := first | exact dd | fail) [e0, e1]; refine Zm ?_; ((first | refine Ap (rround_call (comp h0L B k) ((B.drop (64 * k)).take 64) (by simp) (by simp; omega)) ?_ | skip) <;> (refine Zf h9 ?_; clear h9 K9))) | refine Zt ?_ | refine Y8 fun K hK => ?_ | (apply hK; clear hK K) | (refine Yb rfl ?_ ?_ <;> intro hcnd <;> (try simp at hcnd) <;> try exact dc) | refine Zx ?_ | clear hK K)
    refine hL _ _ hk ?_
    exact Le.drop (by dsimp only [ups, zN, zS]; simp [comp]; omega)
   obtain rfl : k = B.length / 64 := by omega
   obtain ⟨v, hv⟩ : ∃ v, v = comp h0L B (B.length / 64) := ⟨_, rfl⟩
   have hvl : v.length = 8 := by simp [hv]
   have hvo : shaS L = outB v := by rw [shaS, hOf, hv, hB]
   rw [← hv]
   repeat' (first | (refine Zu ?_; intro K9 h9; simp (disch := first | exact dd | fail) [hvl]; refine Zm ?_; refine Zf h9 ?_; clear h9 K9) | refine Zt ?_ | refine Y8 fun K hK => ?_ | (apply hK; clear hK K) | (refine Yb rfl ?_ ?_ <;> intro hcnd <;> (try simp at hcnd) <;> try exact dc) | refine Zx ?_ | clear hK K)
   refine awp_countU (fun i => (some V.junk :: none :: zS 2 (none :: zS 7 (some (V.osl 0 0 (4 * i) 1) :: none :: zS 60 (zN 2 (some (V.int .i64 i) :: zS 20 [])))))) (fun i => [.live (rr v i)]) 8 ?_ fun i hi KL hL => ?_
   ·dsimp only [ups, zN, zS]
    exact Yr [some 0] (by simp [rowsOver, rr])
   dsimp only [ups, zN, zS]
   have hol := rr_take v i (by omega)
   have hrl := rr_length v i (by omega)
   rcases Nat.lt_or_ge i 8 with hi | hi
   ·repeat' (first | (refine Zu ?_; intro K9 h9; simp (disch := first | exact dd | fail) [hvl, hol]; refine Zm ?_; refine Zf h9 ?_; clear h9 K9) | refine Zt ?_ | refine Y8 fun K hK => ?_ | (apply hK; clear hK K) | (refine Yb rfl ?_ ?_ <;> intro hcnd <;> (try simp at hcnd) <;> try exact dc) | refine Zx ?_ | clear hK K)
    refine hL _ _ hi ?_
    exact Yr [some 2] (by simp [rowsOver, rr_succ, ob_succ v i (by omega), wbytes, u8_int])
   obtain rfl : i = 8 := by omega
   repeat' (first | (refine Zu ?_; intro K9 h9; simp (disch := first | exact dd | fail) [hol]; refine Zm ?_; refine Zf h9 ?_; clear h9 K9) | refine Zt ?_ | refine Y8 fun K hK => ?_ | (apply hK; clear hK K) | (refine Yb rfl ?_ ?_ <;> intro hcnd <;> (try simp at hcnd) <;> try exact dc) | refine Zx ?_ | clear hK K)
   rw [rr_succ v 7, ob_all v 8 (by omega)]
   simp [List.take_of_length_le, hvo, hvl]
   exact .pure .str
  repeat' (first | refine Zq ?_ | refine Zt ?_ | refine Y8 fun K hK => ?_ | (apply hK; clear hK K) | (refine Yb rfl ?_ ?_ <;> intro hcnd <;> (try simp at hcnd) <;> try exact dc) | refine Zx ?_ | clear hK K)
  ·have e : (padZ L.length : Int) = 0 := by unfold padZ; omega
   exact hL _ _ _ _ (Le.mk [some 0] (by simp [e]) (rowsRen_of (by simp) (by simp [rowsOver, u32s, h0L])) (by simp)) main
  ·have e : (padZ L.length : Int) = 64 - (L.length + 9) % 64 := by unfold padZ; omega
   exact hL _ _ _ _ (Le.mk [some 0] (by simp [e]) (rowsRen_of (by simp) (by simp [rowsOver, u32s, h0L])) (by simp)) main
 ·exact .str
theorem rshort_call (l : List (List UInt8)) (hl : l.length ≤ 1099511627776) (ht : l.flatten.length ≤ 1099511627776) : PCall prog 53 [.sl l.length (l.map V.str)] (.str (shaT l.flatten)) := by
 refine pcall_body func53 rfl call53 ?_ ?_
 rotate_left 1
 refine awp_slots (s' := (.sl l.length (l.map V.str) : V) :: zJ 5) rfl ?_; dsimp only [zJ]
 repeat' (first | (refine Zu ?_; intro K9 h9; refine Zd ?_; ((first | refine Ap (rsum_call l hl ht) ?_ | skip) <;> (refine Zf h9 ?_; clear h9 K9))) | refine Zt ?_ | refine Y8 fun K hK => ?_ | (apply hK; clear hK K) | refine Zx ?_ | clear hK K)
 ·simp
  exact .pure .str
 ·exact .str
end Go.Proofs.YtnpndfmbkmbhbaaGreatDoor
namespace Go.Proofs.YtnpndfmbkmbhbaaGreatDoor
open Go.Proofs.Tryz
open Go.VS
set_option linter.all false
attribute [local irreducible] arun arunD AWp aend
@[simp] theorem shaT_length (l : List UInt8) : (shaT l).length = 16 := by simp [shaT]
end Go.Proofs.YtnpndfmbkmbhbaaGreatDoor
namespace Go.Proofs.YtnpndfmbkmbhbaaGreatDoor
open Go.Proofs.Tryz
open Go.VS
set_option linter.all false
attribute [local irreducible] arun arunD AWp aend shaS shaT
theorem ints_getElem (l : List Int) (i : Nat) (h : i < (ints l).length) : (ints l)[i] = .int .i64 (l[i]'(by simpa using h)) := by simp [ints]

end Go.Proofs.YtnpndfmbkmbhbaaGreatDoor
namespace Go.Proofs.YtnpndfmbkmbhbaaGreatDoor
open Go.Proofs.Tryz
open Go.VS
set_option linter.all false
attribute [local irreducible] arun arunD AWp aend shaS shaT
def b1S (n : Int) : List UInt8 := [UInt8.ofNat (n % 256).toNat]
@[simp] theorem wbytes_length (n : Int) : (wbytes n).length = 4 := rfl
@[simp] theorem b1S_length (n : Int) : (b1S n).length = 1 := rfl
theorem u8_byte (n : Int) : UInt8.ofNat (IntKind.u8.wrap n).toNat = UInt8.ofNat (n % 256).toNat := by rw [wrap_u8']

theorem b4_call (n : Int) : PCall prog 215 [.int .i64 n] (.str (wbytes n)) := by
 refine pcall_body func215 rfl call215 ?_ ?_
 rotate_left 1
 refine awp_slots (s' := (.int .i64 n : V) :: zJ 15) rfl ?_; dsimp only [zJ]
 repeat' (first | refine Zq ?_ | refine Zt ?_ | refine Y8 fun K hK => ?_ | (apply hK; clear hK K) | refine Zx ?_ | clear hK K)
 ·simp [u8_byte, wbytes]
  exact .pure .str
 ·exact .str
theorem rb4_call (n : Int) : PCall prog 54 [.int .i64 n] (.str (wbytes n)) := by
 refine pcall_body func54 rfl call54 ?_ ?_
 rotate_left 1
 refine awp_slots (s' := (.int .i64 n : V) :: zJ 15) rfl ?_; dsimp only [zJ]
 repeat' (first | refine Zq ?_ | refine Zt ?_ | refine Y8 fun K hK => ?_ | (apply hK; clear hK K) | refine Zx ?_ | clear hK K)
 ·simp [u8_byte, wbytes]
  exact .pure .str
 ·exact .str
theorem b1_call (n : Int) : PCall prog 216 [.int .i64 n] (.str (b1S n)) := by
 refine pcall_body func216 rfl call216 ?_ ?_
 rotate_left 1
 refine awp_slots (s' := (.int .i64 n : V) :: zJ 6) rfl ?_; dsimp only [zJ]
 repeat' (first | refine Zq ?_ | refine Zt ?_ | refine Y8 fun K hK => ?_ | (apply hK; clear hK K) | refine Zx ?_ | clear hK K)
 ·simp [u8_byte, b1S]
  exact .pure .str
 ·exact .str
theorem rb1_call (n : Int) : PCall prog 115 [.int .i64 n] (.str (b1S n)) := by
 refine pcall_body func115 rfl call115 ?_ ?_
 rotate_left 1
 refine awp_slots (s' := (.int .i64 n : V) :: zJ 6) rfl ?_; dsimp only [zJ]
 repeat' (first | refine Zq ?_ | refine Zt ?_ | refine Y8 fun K hK => ?_ | (apply hK; clear hK K) | refine Zx ?_ | clear hK K)
 ·simp [u8_byte, b1S]
  exact .pure .str
 ·exact .str

def secS (seed : List UInt8) (leaf c : Int) : List UInt8 := shaT ([83] ++ seed ++ wbytes leaf ++ b1S c)
@[simp] theorem secS_length (seed : List UInt8) (leaf c : Int) : (secS seed leaf c).length = 16 := by rw [secS, shaT_length]
theorem rsecret_call (seed : List UInt8) (leaf c : Int) (hs : seed.length ≤ 1000) : PCall prog 100 [.str seed, .int .i64 leaf, .int .i64 c] (.str (secS seed leaf c)) := by
 refine pcall_body func100 rfl call100 ?_ ?_
 rotate_left 1
 refine awp_slots (s' := (.str seed : V) :: (.int .i64 leaf : V) :: (.int .i64 c : V) :: zJ 11) rfl ?_; dsimp only [zJ]
 repeat' (first | (refine Zu ?_; intro K9 h9; refine Zd ?_; ((first | refine Ap (rb4_call _) ?_ | refine Ap (rb1_call _) ?_ | refine acall_view (rshort_call [[83], seed, wbytes leaf, b1S c] (by simp) (by simp; omega)) ⟨view_row rfl (by simp) (by simp), trivial⟩ .str ?_ | skip) <;> (refine Zf h9 ?_; clear h9 K9))) | refine Zt ?_ | refine Y8 fun K hK => ?_ | (apply hK; clear hK K) | refine Zx ?_ | clear hK K)
 ·simp [secS]
  exact .pure .str
 ·exact .str

def walkN (id : List UInt8) (leaf c : Int) (f : Nat) (v : List UInt8) : Nat → List UInt8
 | 0 => v
 | k + 1 => shaT ([67] ++ id ++ wbytes leaf ++ b1S c ++ b1S (f + k : Nat) ++ walkN id leaf c f v k)
def walkS (id : List UInt8) (leaf c : Int) (f t : Nat) (v : List UInt8) : List UInt8 := walkN id leaf c f v (t - f)
theorem walkN_length (id : List UInt8) (leaf c : Int) (f : Nat) (v : List UInt8) (hv : v.length = 16) : ∀ k, (walkN id leaf c f v k).length = 16
 | 0 => hv
 | k + 1 => by rw [walkN, shaT_length]
theorem walkS_length (id : List UInt8) (leaf c : Int) (f t : Nat) (v : List UInt8) (hv : v.length = 16) : (walkS id leaf c f t v).length = 16 := walkN_length id leaf c f v hv _

theorem wlk_call (id : List UInt8) (leaf c : Int) (f t : Nat) (v : List UInt8) (hi : id.length ≤ 1000) (hv : v.length = 16) (hft : f ≤ t) (ht : t ≤ 1000) :
  PCall prog 186 [.str id, .int .i64 leaf, .int .i64 c, .int .i64 f, .int .i64 t, .str v] (.str (walkS id leaf c f t v)) := by
 refine pcall_body func186 rfl call186 ?_ ?_
 rotate_left 1
 refine awp_slots (s' := (.str id : V) :: (.int .i64 leaf : V) :: (.int .i64 c : V) :: (.int .i64 f : V) :: (.int .i64 t : V) :: (.str v : V) :: zJ 25) rfl ?_; dsimp only [zJ]
 repeat' (first | refine Zq ?_ | refine Zt ?_ | refine Y8 fun K hK => ?_ | (apply hK; clear hK K) | (refine Yb rfl ?_ ?_ <;> intro hcnd <;> (try simp at hcnd) <;> try exact dc) | refine Zx ?_ | clear hK K)
 ·refine awp_countU (fun k => (zN 3 (some V.junk :: none :: some (V.str (walkN id leaf c f v k)) :: zN 6 (some V.junk :: some (V.int .i64 ((f + k : Nat) : Int)) :: zS 17 [])))) (fun k => []) (t - f) ?_ fun k hk KL hL => ?_
  ·dsimp only [ups, zN, zS]
   exact Le.drop (by simp [walkN])
  dsimp only [ups, zN, zS]
  have hwl := walkN_length id leaf c f v hv k
  rcases Nat.lt_or_ge k (t - f) with hk | hk
  ·repeat' (first | (refine Zu ?_; intro K9 h9; refine Zd ?_; ((first | refine Ap (b4_call _) ?_ | refine Ap (b1_call _) ?_ | refine acall_view (hshort_call [[67], id, wbytes leaf, b1S c, b1S (f + k : Nat), walkN id leaf c f v k] (by simp) (by simp; omega)) ⟨view_row rfl (by simp) (by simp), trivial⟩ .str ?_ | skip) <;> (refine Zf h9 ?_; clear h9 K9))) | refine Zt ?_ | refine Y8 fun K hK => ?_ | (apply hK; clear hK K) | (refine Yb rfl ?_ ?_ <;> intro hcnd <;> (try simp at hcnd) <;> try exact dc) | refine Zx ?_ | clear hK K)
   refine hL _ _ hk ?_
   exact Le.drop (by dsimp only [ups, zN, zS]; simp [walkN]; omega)
  obtain rfl : k = t - f := by omega
  repeat' (first | refine Zq ?_ | refine Zt ?_ | refine Y8 fun K hK => ?_ | (apply hK; clear hK K) | (refine Yb rfl ?_ ?_ <;> intro hcnd <;> (try simp at hcnd) <;> try exact dc) | refine Zx ?_ | clear hK K)
  simp [walkS]
  exact .pure .str
 ·exact .str

theorem rwalk_call (id : List UInt8) (leaf c : Int) (f t : Nat) (v : List UInt8) (hi : id.length ≤ 1000) (hv : v.length = 16) (hft : f ≤ t) (ht : t ≤ 1000) :
  PCall prog 99 [.str id, .int .i64 leaf, .int .i64 c, .int .i64 f, .int .i64 t, .str v] (.str (walkS id leaf c f t v)) := by
 refine pcall_body func99 rfl call99 ?_ ?_
 rotate_left 1
 refine awp_slots (s' := (.str id : V) :: (.int .i64 leaf : V) :: (.int .i64 c : V) :: (.int .i64 f : V) :: (.int .i64 t : V) :: (.str v : V) :: zJ 25) rfl ?_; dsimp only [zJ]
 repeat' (first | refine Zq ?_ | refine Zt ?_ | refine Y8 fun K hK => ?_ | (apply hK; clear hK K) | (refine Yb rfl ?_ ?_ <;> intro hcnd <;> (try simp at hcnd) <;> try exact dc) | refine Zx ?_ | clear hK K)
 ·refine awp_countU (fun k => (zN 3 (some V.junk :: none :: some (V.str (walkN id leaf c f v k)) :: zN 6 (some V.junk :: some (V.int .i64 ((f + k : Nat) : Int)) :: zS 17 [])))) (fun k => []) (t - f) ?_ fun k hk KL hL => ?_
  ·dsimp only [ups, zN, zS]
   exact Le.drop (by simp [walkN])
  dsimp only [ups, zN, zS]
  have hwl := walkN_length id leaf c f v hv k
  rcases Nat.lt_or_ge k (t - f) with hk | hk
  ·repeat' (first | (refine Zu ?_; intro K9 h9; refine Zd ?_; ((first | refine Ap (rb4_call _) ?_ | refine Ap (rb1_call _) ?_ | refine acall_view (rshort_call [[67], id, wbytes leaf, b1S c, b1S (f + k : Nat), walkN id leaf c f v k] (by simp) (by simp; omega)) ⟨view_row rfl (by simp) (by simp), trivial⟩ .str ?_ | skip) <;> (refine Zf h9 ?_; clear h9 K9))) | refine Zt ?_ | refine Y8 fun K hK => ?_ | (apply hK; clear hK K) | (refine Yb rfl ?_ ?_ <;> intro hcnd <;> (try simp at hcnd) <;> try exact dc) | refine Zx ?_ | clear hK K)
   refine hL _ _ hk ?_
   exact Le.drop (by dsimp only [ups, zN, zS]; simp [walkN]; omega)
  obtain rfl : k = t - f := by omega
  repeat' (first | refine Zq ?_ | refine Zt ?_ | refine Y8 fun K hK => ?_ | (apply hK; clear hK K) | (refine Yb rfl ?_ ?_ <;> intro hcnd <;> (try simp at hcnd) <;> try exact dc) | refine Zx ?_ | clear hK K)
  simp [walkS]
  exact .pure .str
 ·exact .str


def leafE (id : List UInt8) (leaf : Int) : Int := if id.length ≠ 16 then 18 else if leaf < 0 ∨ 256 ≤ leaf then 1 else 0
def seedE (id seed : List UInt8) (leaf : Int) : Int := if id.length ≠ 16 ∨ seed.length ≠ 32 then 18 else leafE id leaf
theorem checkLeaf_call (id : List UInt8) (leaf : Int) (hi : id.length ≤ 140737488355328) : PCall prog 184 [.str id, .int .i64 leaf] (.int .i64 (leafE id leaf)) := by
 refine pcall_body func184 rfl call184 ?_ ?_
 rotate_left 1
 refine awp_slots (s' := (.str id : V) :: (.int .i64 leaf : V) :: zJ 14) rfl ?_; dsimp only [zJ]
 by_cases h1 : (id.length : Int) = 16 <;> by_cases h2 : leaf < 0 <;> by_cases h3 : 256 ≤ leaf <;> (try (exfalso; omega)) <;> (
 repeat' (first | ((first | refine Zu ?_ | (refine Zv ?_ ?_; (focus (simp [h1, h2, h3]; done)))); intro K9 h9; simp (disch := first | exact dd | fail) [h1, h2, h3]; refine Zm ?_; refine Zf h9 ?_; clear h9 K9) | refine Zt ?_ | refine Y8 fun K hK => ?_ | (apply hK; clear hK K) | (refine Yb rfl ?_ ?_ <;> intro hcnd <;> (try simp at hcnd) <;> try exact dc) | (refine Zn ?_ ?_; (focus (simp [h1, h2, h3]; done)); refine Zs ?_) | refine Zx ?_ | clear hK K)
 first
 | (rw [show leafE id leaf = 18 by unfold leafE; rw [if_pos (by omega)]]; simp; exact .pure .int)
 | (rw [show leafE id leaf = 1 by unfold leafE; rw [if_neg (by omega), if_pos (by omega)]]; simp; exact .pure .int)
 | (rw [show leafE id leaf = 0 by unfold leafE; rw [if_neg (by omega), if_neg (by omega)]]; simp; exact .pure .int))
 ·exact .int
theorem rcheck_call (id seed : List UInt8) (leaf : Int) (hi : id.length ≤ 140737488355328) (hs : seed.length ≤ 140737488355328) : PCall prog 97 [.str id, .str seed, .int .i64 leaf] (.int .i64 (seedE id seed leaf)) := by
 refine pcall_body func97 rfl call97 ?_ ?_
 rotate_left 1
 refine awp_slots (s' := (.str id : V) :: (.str seed : V) :: (.int .i64 leaf : V) :: zJ 18) rfl ?_; dsimp only [zJ]
 by_cases h1 : (id.length : Int) = 16 <;> by_cases h2 : (seed.length : Int) = 32 <;> by_cases h3 : leaf < 0 <;> by_cases h4 : 256 ≤ leaf <;> (try (exfalso; omega)) <;> (
 repeat' (first | ((first | refine Zu ?_ | (refine Zv ?_ ?_; (focus (simp [h1, h2, h3, h4]; done)))); intro K9 h9; simp (disch := first | exact dd | fail) [h1, h2, h3, h4]; refine Zm ?_; refine Zf h9 ?_; clear h9 K9) | refine Zt ?_ | refine Y8 fun K hK => ?_ | (apply hK; clear hK K) | (refine Yb rfl ?_ ?_ <;> intro hcnd <;> (try simp at hcnd) <;> try exact dc) | (refine Zn ?_ ?_; (focus (simp [h1, h2, h3, h4]; done)); refine Zs ?_) | refine Zx ?_ | clear hK K)
 first
 | (rw [show seedE id seed leaf = 18 by unfold seedE; rw [if_pos (by omega)]]; simp; exact .pure .int)
 | (rw [show seedE id seed leaf = 1 by unfold seedE leafE; rw [if_neg (by omega), if_neg (by omega), if_pos (by omega)]]; simp; exact .pure .int)
 | (rw [show seedE id seed leaf = 0 by unfold seedE leafE; rw [if_neg (by omega), if_neg (by omega), if_neg (by omega)]]; simp; exact .pure .int))
 ·exact .int

end Go.Proofs.YtnpndfmbkmbhbaaGreatDoor
namespace Go.Proofs.YtnpndfmbkmbhbaaGreatDoor
open Go.Proofs.Tryz
open Go.VS
set_option linter.all false
attribute [local irreducible] arun arunD AWp aend shaS shaT
def jn (l : List (List UInt8)) (i : Nat) : List UInt8 := catN l i ++ List.replicate (16 * (l.length - i)) 0
theorem catN_len {l : List (List UInt8)} (hl : ∀ x ∈ l, x.length = 16) : ∀ i, i ≤ l.length → (catN l i).length = 16 * i
 | 0, _ => by simp [catN]
 | i + 1, h => by
  rw [catN_succ l i (by omega), List.length_append, catN_len hl i (by omega), hl _ (List.getElem_mem _)]; omega
theorem jn_length {l : List (List UInt8)} (hl : ∀ x ∈ l, x.length = 16) (i : Nat) (h : i ≤ l.length) : (jn l i).length = 16 * l.length := by
 rw [jn, List.length_append, catN_len hl i h, List.length_replicate]; omega

theorem jn_succ {l : List (List UInt8)} (hl : ∀ x ∈ l, x.length = 16) (i : Nat) (h : i < l.length) : lput ((jn l i).map byteV) (16 * i) (l[i].map byteV) = (jn l (i + 1)).map byteV := by
 have hc := catN_len hl i (by omega)
 have hx := hl l[i] (List.getElem_mem _)
 have hj := jn_length hl i (by omega)
 rw [lput_eq (by simp [hj, hx]; omega), ← List.map_take, ← List.map_drop, ← List.map_append, ← List.map_append]
 congr 1
 rw [List.length_map, hx, jn, jn, catN_succ l i h, List.take_append_of_le_length (by omega), List.take_of_length_le (by omega), List.append_assoc, List.append_assoc, List.drop_append, List.drop_of_length_le (by omega), List.nil_append, hc, List.drop_replicate,
  show 16 * (l.length - i) - (16 * i + 16 - 16 * i) = 16 * (l.length - (i + 1)) by omega]

theorem join_call (l : List (List UInt8)) (hn : l.length ≤ 1000000) (hl : ∀ x ∈ l, x.length = 16) : PCall prog 217 [.sl l.length (l.map V.str)] (.str l.flatten) := by
 refine pcall_body func217 rfl call217 ?_ ?_
 rotate_left 1
 refine awp_slots (s' := (.sl l.length (l.map V.str) : V) :: zJ 25) rfl ?_; dsimp only [zJ]
 repeat' (first | refine Zq ?_ | refine Zt ?_ | refine Y8 fun K hK => ?_ | (apply hK; clear hK K) | (refine Yb rfl ?_ ?_ <;> intro hcnd <;> (try simp at hcnd) <;> try exact dc) | refine Zx ?_ | clear hK K)
 ·refine awp_countU (fun i => (some V.junk :: none :: some V.junk :: some (V.osl 0 0 (16 * l.length) 1) :: zS 6 (zN 2 (some (V.int .i64 i) :: zS 13 [])))) (fun i => [.live ((jn l i).map byteV)]) l.length ?_ fun i hi KL hL => ?_
  ·dsimp only [ups, zN, zS]
   have e : ((l.length : Int) * 16).toNat = 16 * l.length := by omega
   rw [e]
   exact Yr [some 0] (by simp [rowsOver, jn, catN, byteV])
  dsimp only [ups, zN, zS]
  have hjl := jn_length hl i hi
  rcases Nat.lt_or_ge i l.length with hi | hi
  ·have hx := hl l[i] (List.getElem_mem _)
   repeat' (first | (refine Zu ?_; intro K9 h9; simp (disch := first | exact dd | fail) [hjl, hx]; refine Zm ?_; refine Zf h9 ?_; clear h9 K9) | refine Zt ?_ | refine Y8 fun K hK => ?_ | (apply hK; clear hK K) | (refine Yb rfl ?_ ?_ <;> intro hcnd <;> (try simp at hcnd) <;> try exact dc) | refine Zx ?_ | clear hK K)
   refine hL _ _ hi ?_
   rw [show ((i : Int) * 16).toNat = 16 * i by omega, jn_succ hl i hi]
   exact Yr [some 0] (by simp [rowsOver])
  obtain rfl : i = l.length := by omega
  have hje : jn l l.length = l.flatten := by simp [jn, catN]
  repeat' (first | (refine Zu ?_; intro K9 h9; simp (disch := first | exact dd | fail) [bytes_full, hjl, List.take_of_length_le]; refine Zm ?_; refine Zf h9 ?_; clear h9 K9) | refine Zt ?_ | refine Y8 fun K hK => ?_ | (apply hK; clear hK K) | (refine Yb rfl ?_ ?_ <;> intro hcnd <;> (try simp at hcnd) <;> try exact dc) | refine Zx ?_ | clear hK K)
  rw [hje]
  simp
  exact .pure .str
 ·exact .str

def pubS (id : List UInt8) (leaf : Int) (ends : List (List UInt8)) : List UInt8 := shaT ([76] ++ id ++ wbytes leaf ++ ends.flatten)
theorem flat16 {l : List (List UInt8)} (hl : ∀ x ∈ l, x.length = 16) : l.flatten.length = 16 * l.length := by
 have := catN_len hl l.length (Nat.le_refl _)
 rwa [catN, List.take_length] at this
theorem public_call (id : List UInt8) (leaf : Int) (ends : List (List UInt8)) (hi : id.length ≤ 1000) (hn : ends.length ≤ 1000) (hl : ∀ x ∈ ends, x.length = 16) :
  PCall prog 187 [.str id, .int .i64 leaf, .sl ends.length (ends.map V.str)] (.str (pubS id leaf ends)) := by
 refine pcall_body func187 rfl call187 ?_ ?_
 rotate_left 1
 refine awp_slots (s' := (.str id : V) :: (.int .i64 leaf : V) :: (.sl ends.length (ends.map V.str) : V) :: zJ 11) rfl ?_; dsimp only [zJ]
 have hf := flat16 hl
 repeat' (first | (refine Zu ?_; intro K9 h9; refine Zd ?_; ((first | refine Ap (b4_call _) ?_ | refine Ap (join_call ends (by omega) hl) ?_ | refine acall_view (hshort_call [[76], id, wbytes leaf, ends.flatten] (by simp) (by rw [List.flatten_cons, List.flatten_cons, List.flatten_cons, List.flatten_cons, List.flatten_nil]; simp only [List.length_append, hf, wbytes_length, List.length_cons, List.length_nil]; omega)) ⟨view_row rfl (by simp) (by simp), trivial⟩ .str ?_ | skip) <;> (refine Zf h9 ?_; clear h9 K9))) | refine Zt ?_ | refine Y8 fun K hK => ?_ | (apply hK; clear hK K) | refine Zx ?_ | clear hK K)
 ·simp [pubS]
  exact .pure .str
 ·exact .str

def chains (id seed : List UInt8) (leaf : Int) (k : Nat) : List (List UInt8) := (List.range k).map fun (c : Nat) => walkS id leaf (c : Int) 0 15 (secS seed leaf (c : Int))
@[simp] theorem chains_length (id seed : List UInt8) (leaf : Int) (k : Nat) : (chains id seed leaf k).length = k := by simp [chains]
theorem chains_succ (id seed : List UInt8) (leaf : Int) (k : Nat) : chains id seed leaf (k + 1) = chains id seed leaf k ++ [walkS id leaf (k : Int) 0 15 (secS seed leaf k)] := by simp [chains, List.range_succ]
theorem chains_16 (id seed : List UInt8) (leaf : Int) (k : Nat) : ∀ x ∈ chains id seed leaf k, x.length = 16 := by
 intro x hx
 obtain ⟨c, -, rfl⟩ := List.mem_map.1 hx
 exact walkS_length _ _ _ _ _ _ (secS_length _ _ _)
def pubV (id seed : List UInt8) (leaf : Int) : V := if seedE id seed leaf = 0 then .tup [.str (pubS id leaf (chains id seed leaf 35)), .int .i64 0] else .tup [.str [], .int .i64 (seedE id seed leaf)]
theorem seedE_zero {id seed : List UInt8} {leaf : Int} (h : seedE id seed leaf = 0) : id.length = 16 ∧ seed.length = 32 ∧ 0 ≤ leaf ∧ leaf < 256 := by
 unfold seedE leafE at h
 split at h
 ·omega
 ·split at h
  ·omega
  ·split at h
   ·omega
   ·omega

end Go.Proofs.YtnpndfmbkmbhbaaGreatDoor
namespace Go.Proofs.YtnpndfmbkmbhbaaGreatDoor
open Go.Proofs.Tryz
open Go.VS
set_option linter.all false
attribute [local irreducible] arun arunD AWp aend shaS shaT
theorem chains_flat (id seed : List UInt8) (leaf : Int) (k : Nat) : (chains id seed leaf k).flatten.length = 16 * k := by rw [flat16 (chains_16 id seed leaf k), chains_length]
def chF (id seed : List UInt8) (leaf : Int) (k : Nat) : List UInt8 := (chains id seed leaf k).flatten
theorem chF_length (id seed : List UInt8) (leaf : Int) (k : Nat) : (chF id seed leaf k).length = 16 * k := chains_flat id seed leaf k
theorem chF_succ (id seed : List UInt8) (leaf : Int) (k : Nat) : chF id seed leaf (k + 1) = chF id seed leaf k ++ walkS id leaf (k : Int) 0 15 (secS seed leaf (k : Int)) := by simp [chF, chains_succ]

theorem ropublic_call (id seed : List UInt8) (leaf : Int) (hi : id.length ≤ 140737488355328) (hs : seed.length ≤ 140737488355328) : PCall prog 114 [.str id, .str seed, .int .i64 leaf] (pubV id seed leaf) := by
 refine pcall_body func114 rfl call114 ?_ ?_
 rotate_left 1
 refine awp_slots (s' := (.str id : V) :: (.str seed : V) :: (.int .i64 leaf : V) :: zJ 35) rfl ?_; dsimp only [zJ]
 by_cases h0 : seedE id seed leaf = 0
 ·obtain ⟨a1, a2, a3, a4⟩ := seedE_zero h0
  repeat' (first | (refine Zu ?_; intro K9 h9; simp (disch := first | exact dd | fail) [h0]; refine Zm ?_; ((first | refine Ap (rcheck_call id seed leaf hi hs) ?_ | skip) <;> (refine Zf h9 ?_; clear h9 K9))) | refine Zt ?_ | refine Y8 fun K hK => ?_ | (apply hK; clear hK K) | (refine Yb rfl ?_ ?_ <;> intro hcnd <;> (try simp at hcnd) <;> try exact dc) | refine Zx ?_ | clear hK K)
  refine awp_countU (fun k => (zN 6 (zS 3 (some (V.str (chF id seed leaf k)) :: some (V.int .i64 k) :: zS 27 [])))) (fun k => []) 35 ?_ fun k hk KL hL => ?_
  ·dsimp only [ups, zN, zS]
   exact Le.drop (by simp [chF, chains])
  dsimp only [ups, zN, zS]
  have hcl := chF_length id seed leaf k
  have hwl := walkS_length id leaf (k : Int) 0 15 (secS seed leaf k) (secS_length _ _ _)
  rcases Nat.lt_or_ge k 35 with hk | hk
  ·repeat' (first | (refine Zu ?_; intro K9 h9; refine Zd ?_; ((first | refine Ap (rsecret_call seed leaf k (by omega)) ?_ | refine Ap (rwalk_call id leaf k 0 15 (secS seed leaf k) (by omega) (secS_length _ _ _) (by omega) (by omega)) ?_ | skip) <;> (refine Zf h9 ?_; clear h9 K9))) | refine Zt ?_ | refine Y8 fun K hK => ?_ | (apply hK; clear hK K) | (refine Yb rfl ?_ ?_ <;> intro hcnd <;> (try simp at hcnd) <;> try exact dc) | refine Zx ?_ | clear hK K)
   refine hL _ _ hk ?_
   exact Le.drop (by dsimp only [ups, zN, zS]; simp [chF_succ])
  obtain rfl : k = 35 := by omega
  repeat' (first | (refine Zu ?_; intro K9 h9; refine Zd ?_; ((first | refine Ap (rb4_call _) ?_ | refine acall_view (rshort_call [[76], id, wbytes leaf, chF id seed leaf 35] (by simp) (by simp; omega)) ⟨view_row rfl (by simp) (by simp), trivial⟩ .str ?_ | skip) <;> (refine Zf h9 ?_; clear h9 K9))) | refine Zt ?_ | refine Y8 fun K hK => ?_ | (apply hK; clear hK K) | (refine Yb rfl ?_ ?_ <;> intro hcnd <;> (try simp at hcnd) <;> try exact dc) | refine Zx ?_ | clear hK K)
  rw [pubV, if_pos h0]
  simp [pubS, chF]
  exact .pure (by simp)
 ·repeat' (first | (refine Zu ?_; intro K9 h9; simp (disch := first | exact dd | fail) [h0]; refine Zm ?_; ((first | refine Ap (rcheck_call id seed leaf hi hs) ?_ | skip) <;> (refine Zf h9 ?_; clear h9 K9))) | refine Zt ?_ | refine Y8 fun K hK => ?_ | (apply hK; clear hK K) | (refine Yb rfl ?_ ?_ <;> intro hcnd <;> (try simp at hcnd) <;> try exact dc) | refine Zx ?_ | clear hK K)
  rw [pubV, if_neg h0]
  simp
  exact .pure (by simp)
 ·unfold pubV; split <;> simp

def mseedS (k : Int) : List UInt8 := shaS ([115, 101, 101, 100] ++ wbytes k)
@[simp] theorem mseedS_length (k : Int) : (mseedS k).length = 32 := by rw [mseedS, shaS_length]
theorem mseed_call (k : Int) : PCall prog 63 [.int .i64 k] (.str (mseedS k)) := by
 refine pcall_body func63 rfl call63 ?_ ?_
 rotate_left 1
 refine awp_slots (s' := (.int .i64 k : V) :: zJ 6) rfl ?_; dsimp only [zJ]
 repeat' (first | (refine Zu ?_; intro K9 h9; refine Zd ?_; ((first | refine Ap (rb4_call _) ?_ | refine acall_view (rsum_call [[115, 101, 101, 100], wbytes k] (by simp) (by simp)) ⟨view_row rfl (by simp) (by simp), trivial⟩ .str ?_ | skip) <;> (refine Zf h9 ?_; clear h9 K9))) | refine Zt ?_ | refine Y8 fun K hK => ?_ | (apply hK; clear hK K) | refine Zx ?_ | clear hK K)
 ·simp [mseedS]
  exact .pure .str
 ·exact .str
end Go.Proofs.YtnpndfmbkmbhbaaGreatDoor
namespace Go.Proofs.YtnpndfmbkmbhbaaGreatDoor
open Go.Proofs.Tryz
open Go.VS
set_option linter.all false
attribute [local irreducible] arun arunD AWp aend shaS shaT
def digN (d : List UInt8) (c : Nat) : Nat := ((digs d).getD c 0).toNat
theorem digs_range (d : List UInt8) (h : d.length = 16) : ∀ x ∈ digs d, 0 ≤ x ∧ x ≤ 15 := by
 have hb := sumBy_bound d
 intro x hx
 simp only [digs, List.mem_append] at hx
 rcases hx with hx | hx
 ·obtain ⟨c, -, hc⟩ := List.mem_flatMap.1 hx
  have : c.toNat < 256 := UInt8.toNat_lt _
  simp at hc
  rcases hc with rfl | rfl <;> omega
 ·simp at hx
  rcases hx with rfl | rfl | rfl <;> omega
theorem digN_le (d : List UInt8) (h : d.length = 16) (c : Nat) : digN d c ≤ 15 := by
 unfold digN
 rcases Nat.lt_or_ge c (digs d).length with hc | hc
 ·have := digs_range d h _ (List.getElem_mem hc)
  simp [List.getD_eq_getElem?_getD, hc]; omega
 ·simp [List.getD_eq_getElem?_getD, hc]
theorem digN_int (d : List UInt8) (h : d.length = 16) (c : Nat) (hc : c < (digs d).length) : (digs d)[c] = (digN d c : Int) := by
 have := digs_range d h _ (List.getElem_mem hc)
 simp [digN, List.getD_eq_getElem?_getD, hc]; omega

def vals (id seed : List UInt8) (leaf : Int) (d : List UInt8) (k : Nat) : List (List UInt8) := (List.range k).map fun (c : Nat) => walkS id leaf (c : Int) 0 (digN d c) (secS seed leaf (c : Int))
@[simp] theorem vals_length (id seed : List UInt8) (leaf : Int) (d : List UInt8) (k : Nat) : (vals id seed leaf d k).length = k := by simp [vals]
theorem vals_succ (id seed : List UInt8) (leaf : Int) (d : List UInt8) (k : Nat) : vals id seed leaf d (k + 1) = vals id seed leaf d k ++ [walkS id leaf (k : Int) 0 (digN d k) (secS seed leaf (k : Int))] := by simp [vals, List.range_succ]
theorem vals_16 (id seed : List UInt8) (leaf : Int) (d : List UInt8) (k : Nat) : ∀ x ∈ vals id seed leaf d k, x.length = 16 := by
 intro x hx
 obtain ⟨c, -, rfl⟩ := List.mem_map.1 hx
 exact walkS_length _ _ _ _ _ _ (secS_length _ _ _)
def vF (id seed : List UInt8) (leaf : Int) (d : List UInt8) (k : Nat) : List UInt8 := (vals id seed leaf d k).flatten
theorem vF_length (id seed : List UInt8) (leaf : Int) (d : List UInt8) (k : Nat) : (vF id seed leaf d k).length = 16 * k := by rw [vF, flat16 (vals_16 id seed leaf d k), vals_length]
theorem vF_succ (id seed : List UInt8) (leaf : Int) (d : List UInt8) (k : Nat) : vF id seed leaf d (k + 1) = vF id seed leaf d k ++ walkS id leaf (k : Int) 0 (digN d k) (secS seed leaf (k : Int)) := by simp [vF, vals_succ]

def sigV (id seed : List UInt8) (leaf : Int) (d : List UInt8) : V :=
 if seedE id seed leaf = 0 then (if d.length = 16 then .tup [.str (vF id seed leaf d 35), .int .i64 0] else .tup [.str [], .int .i64 7]) else .tup [.str [], .int .i64 (seedE id seed leaf)]

set_option maxHeartbeats 4000000 in
theorem rsign_call (id seed : List UInt8) (leaf : Int) (d : List UInt8) (hi : id.length ≤ 140737488355328) (hs : seed.length ≤ 140737488355328) (hd : d.length ≤ 140737488355328) :
  PCall prog 52 [.str id, .str seed, .int .i64 leaf, .str d] (sigV id seed leaf d) := by
 refine pcall_body func52 rfl call52 ?_ ?_
 rotate_left 1
 refine awp_slots (s' := (.str id : V) :: (.str seed : V) :: (.int .i64 leaf : V) :: (.str d : V) :: zJ 47) rfl ?_; dsimp only [zJ]
 by_cases h0 : seedE id seed leaf = 0
 ·obtain ⟨a1, a2, a3, a4⟩ := seedE_zero h0
  by_cases h16 : d.length = 16
  ·have hr : digR d = .tup [.sl 35 (ints (digs d)), .int .i64 0] := by rw [digR, if_pos h16]
   have hdl : (digs d).length = 35 := digs_length d h16
   repeat' (first | (refine Zu ?_; intro K9 h9; simp (disch := first | exact dd | fail) [h0, hr]; refine Zm ?_; ((first | refine Ap (rcheck_call id seed leaf hi hs) ?_ | refine Ap (rdigits_call d (by omega)) ?_ | skip) <;> (refine Zf h9 ?_; clear h9 K9))) | refine Zt ?_ | refine Y8 fun K hK => ?_ | (apply hK; clear hK K) | (refine Zk 0 [] ?_; refine Zl ?_) | (refine Yb rfl ?_ ?_ <;> intro hcnd <;> (try simp at hcnd) <;> try exact dc) | refine Zx ?_ | clear hK K)
   refine awp_countU (fun k => (zN 3 (some V.junk :: zN 4 (zS 3 (none :: some V.junk :: some (V.str (vF id seed leaf d k)) :: zS 17 (none :: some (V.int .i64 k) :: zS 18 [])))))) (fun k => []) 35 ?_ fun k hk KL hL => ?_
   ·dsimp only [ups, zN, zS]
    exact Le.drop (by simp [vF, vals])
   dsimp only [ups, zN, zS]
   have hvl := vF_length id seed leaf d k
   have hwl := walkS_length id leaf (k : Int) 0 (digN d k) (secS seed leaf k) (secS_length _ _ _)
   rcases Nat.lt_or_ge k 35 with hk | hk
   ·have hdk := digN_le d h16 k
    repeat' (first | (refine Zu ?_; intro K9 h9; simp (disch := first | exact dd | fail) [hdl, ints_getElem, digN_int d h16]; refine Zm ?_; ((first | refine Ap (rsecret_call seed leaf k (by omega)) ?_ | refine Ap (rwalk_call id leaf k 0 (digN d k) (secS seed leaf k) (by omega) (secS_length _ _ _) (by omega) (by omega)) ?_ | skip) <;> (refine Zf h9 ?_; clear h9 K9))) | refine Zt ?_ | refine Y8 fun K hK => ?_ | (apply hK; clear hK K) | (refine Zk 0 [] ?_; refine Zl ?_) | (refine Yb rfl ?_ ?_ <;> intro hcnd <;> (try simp at hcnd) <;> try exact dc) | refine Zx ?_ | clear hK K)
    refine hL _ _ hk ?_
    exact Le.drop (by dsimp only [ups, zN, zS]; simp [vF_succ])
   obtain rfl : k = 35 := by omega
   repeat' (first | refine Zq ?_ | refine Zt ?_ | refine Y8 fun K hK => ?_ | (apply hK; clear hK K) | (refine Zk 0 [] ?_; refine Zl ?_) | (refine Yb rfl ?_ ?_ <;> intro hcnd <;> (try simp at hcnd) <;> try exact dc) | refine Zx ?_ | clear hK K)
   rw [sigV, if_pos h0, if_pos h16]
   simp
   exact .pure (by simp)
  ·have hr : digR d = .tup [.nils, .int .i64 7] := by rw [digR, if_neg h16]
   repeat' (first | (refine Zu ?_; intro K9 h9; simp (disch := first | exact dd | fail) [h0, hr]; refine Zm ?_; ((first | refine Ap (rcheck_call id seed leaf hi hs) ?_ | refine Ap (rdigits_call d (by omega)) ?_ | skip) <;> (refine Zf h9 ?_; clear h9 K9))) | refine Zt ?_ | refine Y8 fun K hK => ?_ | (apply hK; clear hK K) | (refine Zk 0 [] ?_; refine Zl ?_) | (refine Yb rfl ?_ ?_ <;> intro hcnd <;> (try simp at hcnd) <;> try exact dc) | refine Zx ?_ | clear hK K)
   rw [sigV, if_pos h0, if_neg h16]
   simp
   exact .pure (by simp)
 ·repeat' (first | (refine Zu ?_; intro K9 h9; simp (disch := first | exact dd | fail) [h0]; refine Zm ?_; ((first | refine Ap (rcheck_call id seed leaf hi hs) ?_ | skip) <;> (refine Zf h9 ?_; clear h9 K9))) | refine Zt ?_ | refine Y8 fun K hK => ?_ | (apply hK; clear hK K) | (refine Zk 0 [] ?_; refine Zl ?_) | (refine Yb rfl ?_ ?_ <;> intro hcnd <;> (try simp at hcnd) <;> try exact dc) | refine Zx ?_ | clear hK K)
  rw [sigV, if_neg h0]
  simp
  exact .pure (by simp)
 ·unfold sigV; split <;> (try split) <;> simp
end Go.Proofs.YtnpndfmbkmbhbaaGreatDoor
namespace Go.Proofs.YtnpndfmbkmbhbaaGreatDoor
open Go.Proofs.Tryz
open Go.VS
set_option linter.all false
attribute [local irreducible] arun arunD AWp aend shaS shaT
def part16 (sig : List UInt8) (c : Nat) : List UInt8 := (sig.drop (16 * c)).take 16
theorem part16_length (sig : List UInt8) (c : Nat) (h : sig.length = 560) (hc : c < 35) : (part16 sig c).length = 16 := by simp [part16]; omega
def recs (id : List UInt8) (leaf : Int) (d sig : List UInt8) (k : Nat) : List (List UInt8) := (List.range k).map fun (c : Nat) => walkS id leaf (c : Int) (digN d c) 15 (part16 sig c)
@[simp] theorem recs_length (id : List UInt8) (leaf : Int) (d sig : List UInt8) (k : Nat) : (recs id leaf d sig k).length = k := by simp [recs]
theorem recs_succ (id : List UInt8) (leaf : Int) (d sig : List UInt8) (k : Nat) : recs id leaf d sig (k + 1) = recs id leaf d sig k ++ [walkS id leaf (k : Int) (digN d k) 15 (part16 sig k)] := by simp [recs, List.range_succ]
theorem recs_16 (id : List UInt8) (leaf : Int) (d sig : List UInt8) (h : sig.length = 560) (k : Nat) (hk : k ≤ 35) : ∀ x ∈ recs id leaf d sig k, x.length = 16 := by
 intro x hx
 obtain ⟨c, hc, rfl⟩ := List.mem_map.1 hx
 have := List.mem_range.1 hc
 exact walkS_length _ _ _ _ _ _ (part16_length _ _ h (by omega))
def recV (id : List UInt8) (leaf : Int) (d sig : List UInt8) : V :=
 if leafE id leaf ≠ 0 then .tup [.str [], .int .i64 (leafE id leaf)] else if d.length ≠ 16 then .tup [.str [], .int .i64 7] else if sig.length ≠ 560 then .tup [.str [], .int .i64 17] else
  .tup [.str (pubS id leaf (recs id leaf d sig 35)), .int .i64 0]
theorem leafE_zero {id : List UInt8} {leaf : Int} (h : leafE id leaf = 0) : id.length = 16 ∧ 0 ≤ leaf ∧ leaf < 256 := by
 unfold leafE at h
 split at h
 ·omega
 ·split at h
  ·omega
  ·omega

set_option maxHeartbeats 4000000 in
theorem recover_call (id : List UInt8) (leaf : Int) (d sig : List UInt8) (hi : id.length ≤ 140737488355328) (hd : d.length ≤ 140737488355328) (hs : sig.length ≤ 140737488355328) :
  PCall prog 157 [.str id, .int .i64 leaf, .str d, .str sig] (recV id leaf d sig) := by
 refine pcall_body func157 rfl call157 ?_ ?_
 rotate_left 1
 refine awp_slots (s' := (.str id : V) :: (.int .i64 leaf : V) :: (.str d : V) :: (.str sig : V) :: zJ 54) rfl ?_; dsimp only [zJ]
 by_cases h0 : leafE id leaf = 0
 ·obtain ⟨a1, a3, a4⟩ := leafE_zero h0
  by_cases h16 : d.length = 16
  ·have hr : digR d = .tup [.sl 35 (ints (digs d)), .int .i64 0] := by rw [digR, if_pos h16]
   have hdl : (digs d).length = 35 := digs_length d h16
   by_cases hsg : (sig.length : Int) = 560
   ·repeat' (first | (refine Zu ?_; intro K9 h9; simp (disch := first | exact dd | fail) [h0, hr, hsg]; refine Zm ?_; ((first | refine Ap (checkLeaf_call id leaf hi) ?_ | refine Ap (digits_call d (by omega)) ?_ | skip) <;> (refine Zf h9 ?_; clear h9 K9))) | refine Zt ?_ | refine Y8 fun K hK => ?_ | (apply hK; clear hK K) | (refine Zk 2 [] ?_; refine Zl ?_) | (refine Yb rfl ?_ ?_ <;> intro hcnd <;> (try simp at hcnd) <;> try exact dc) | refine Zx ?_ | clear hK K)
    refine awp_countU (fun k => (zN 2 (some V.junk :: zN 5 (zS 3 (none :: some V.junk :: some (V.osl 0 0 k 1) :: some (V.int .i64 k) :: zS 43 []))))) (fun k => [.live ((recs id leaf d sig k).map V.str)]) 35 ?_ fun k hk KL hL => ?_
    ·dsimp only [ups, zN, zS]
     exact Yr [none] (by simp [rowsOver, recs])
    dsimp only [ups, zN, zS]
    have e4 : List.take k (List.map V.str (recs id leaf d sig k)) = List.map V.str (recs id leaf d sig k) := List.take_of_length_le (by simp)
    rcases Nat.lt_or_ge k 35 with hk | hk
    ·have hdk := digN_le d h16 k
     have q0 : ((k : Int) * 16).toNat = 16 * k := by omega
     have q1 : (((k : Int) + 1) * 16).toNat = 16 * k + 16 := by omega
     have hp : List.take 16 (List.drop (16 * k) sig) = part16 sig k := rfl
     repeat' (first | (refine Zu ?_; intro K9 h9; simp (disch := first | exact dd | fail) [e4, hdl, ints_getElem, digN_int d h16, q0, q1, hp]; refine Zm ?_; ((first | refine Ap (wlk_call id leaf k (digN d k) 15 (part16 sig k) (by omega) (part16_length sig k (by omega) hk) (by omega) (by omega)) ?_ | skip) <;> (refine Zf h9 ?_; clear h9 K9))) | refine Zt ?_ | refine Y8 fun K hK => ?_ | (apply hK; clear hK K) | (refine Zk 2 [] ?_; refine Zl ?_) | (refine Yb rfl ?_ ?_ <;> intro hcnd <;> (try simp at hcnd) <;> try exact dc) | refine Zx ?_ | clear hK K)
     refine hL _ _ hk ?_
     exact Yr [some 2] (by simp [rowsOver, recs_succ])
    obtain rfl : k = 35 := by omega
    repeat' (first | (refine Zu ?_; intro K9 h9; refine Zd ?_; ((first | refine acall_view (public_call id leaf (recs id leaf d sig 35) (by omega) (by simp) (recs_16 _ _ _ _ (by omega) _ (by omega))) ⟨.pure .str, .pure .int, view_row rfl (by simp) pures_strs, trivial⟩ .str ?_ | skip) <;> (refine Zf h9 ?_; clear h9 K9))) | refine Zt ?_ | refine Y8 fun K hK => ?_ | (apply hK; clear hK K) | (refine Zk 2 [] ?_; refine Zl ?_) | (refine Yb rfl ?_ ?_ <;> intro hcnd <;> (try simp at hcnd) <;> try exact dc) | refine Zx ?_ | clear hK K)
    rw [recV, if_neg (by omega), if_neg (by omega), if_neg (by omega)]
    simp
    exact .pure (by simp)
   ·repeat' (first | (refine Zu ?_; intro K9 h9; simp (disch := first | exact dd | fail) [h0, hr, hsg]; refine Zm ?_; ((first | refine Ap (checkLeaf_call id leaf hi) ?_ | refine Ap (digits_call d (by omega)) ?_ | skip) <;> (refine Zf h9 ?_; clear h9 K9))) | refine Zt ?_ | refine Y8 fun K hK => ?_ | (apply hK; clear hK K) | (refine Zk 2 [] ?_; refine Zl ?_) | (refine Yb rfl ?_ ?_ <;> intro hcnd <;> (try simp at hcnd) <;> try exact dc) | refine Zx ?_ | clear hK K)
    rw [recV, if_neg (by omega), if_neg (by omega), if_pos (by omega)]
    simp
    exact .pure (by simp)
  ·have hr : digR d = .tup [.nils, .int .i64 7] := by rw [digR, if_neg h16]
   repeat' (first | (refine Zu ?_; intro K9 h9; simp (disch := first | exact dd | fail) [h0, hr]; refine Zm ?_; ((first | refine Ap (checkLeaf_call id leaf hi) ?_ | refine Ap (digits_call d (by omega)) ?_ | skip) <;> (refine Zf h9 ?_; clear h9 K9))) | refine Zt ?_ | refine Y8 fun K hK => ?_ | (apply hK; clear hK K) | (refine Zk 2 [] ?_; refine Zl ?_) | (refine Yb rfl ?_ ?_ <;> intro hcnd <;> (try simp at hcnd) <;> try exact dc) | refine Zx ?_ | clear hK K)
   rw [recV, if_neg (by omega), if_pos (by omega)]
   simp
   exact .pure (by simp)
 ·repeat' (first | (refine Zu ?_; intro K9 h9; simp (disch := first | exact dd | fail) [h0]; refine Zm ?_; ((first | refine Ap (checkLeaf_call id leaf hi) ?_ | skip) <;> (refine Zf h9 ?_; clear h9 K9))) | refine Zt ?_ | refine Y8 fun K hK => ?_ | (apply hK; clear hK K) | (refine Zk 2 [] ?_; refine Zl ?_) | (refine Yb rfl ?_ ?_ <;> intro hcnd <;> (try simp at hcnd) <;> try exact dc) | refine Zx ?_ | clear hK K)
  rw [recV, if_pos (by omega)]
  simp
  exact .pure (by simp)
 ·unfold recV; split <;> (try split) <;> (try split) <;> simp
end Go.Proofs.YtnpndfmbkmbhbaaGreatDoor
namespace Go.Proofs.YtnpndfmbkmbhbaaGreatDoor
open Go.Proofs.Tryz
open Go.VS
set_option linter.all false
attribute [local irreducible] arun arunD AWp aend shaS shaT
theorem walkN_add (id : List UInt8) (leaf c : Int) (f : Nat) (v : List UInt8) (j : Nat) : ∀ k, walkN id leaf c (f + j) (walkN id leaf c f v j) k = walkN id leaf c f v (j + k)
 | 0 => rfl
 | k + 1 => by rw [walkN, walkN_add id leaf c f v j k, ← Nat.add_assoc j k 1, walkN, Nat.add_assoc]
theorem walkS_walkS (id : List UInt8) (leaf c : Int) (m t : Nat) (v : List UInt8) (h : m ≤ t) : walkS id leaf c m t (walkS id leaf c 0 m v) = walkS id leaf c 0 t v := by
 have := walkN_add id leaf c 0 v m (t - m)
 rw [Nat.zero_add] at this
 rw [walkS, walkS, walkS, Nat.sub_zero, Nat.sub_zero, this, show m + (t - m) = t by omega]
theorem part16_flat : ∀ {l : List (List UInt8)}, (∀ x ∈ l, x.length = 16) → ∀ (c : Nat) (h : c < l.length), part16 l.flatten c = l[c]
 | [], _, c, h => by simp at h
 | a :: l, hl, 0, h => by
  have ha := hl a (by simp)
  rw [part16, List.flatten_cons, Nat.mul_zero, List.drop_zero, List.take_append_of_le_length (by omega), List.take_of_length_le (by omega)]; rfl
 | a :: l, hl, c + 1, h => by
  have ha := hl a (by simp)
  have := part16_flat (l := l) (fun x hx => hl x (by simp [hx])) c (by simpa using h)
  rw [part16] at this ⊢
  rw [List.flatten_cons, show 16 * (c + 1) = a.length + 16 * c by omega, List.drop_append, List.drop_of_length_le (by omega), List.nil_append, show a.length + 16 * c - a.length = 16 * c by omega, this]; rfl
theorem recs_vals (id seed : List UInt8) (leaf : Int) (d : List UInt8) (h16 : d.length = 16) : recs id leaf d (vF id seed leaf d 35) 35 = chains id seed leaf 35 := by
 unfold recs chains
 refine List.map_congr_left fun c hc => ?_
 have hc := List.mem_range.1 hc
 rw [vF, part16_flat (vals_16 id seed leaf d 35) c (by simpa using hc)]
 have : (vals id seed leaf d 35)[c]'(by simpa using hc) = walkS id leaf (c : Int) 0 (digN d c) (secS seed leaf (c : Int)) := by simp [vals]
 rw [this, walkS_walkS _ _ _ _ _ _ (digN_le d h16 c)]
end Go.Proofs.YtnpndfmbkmbhbaaGreatDoor
namespace Go.Proofs.YtnpndfmbkmbhbaaGreatDoor
open Go.Proofs.Tryz
open Go.VS
set_option linter.all false
attribute [local irreducible] arun arunD AWp aend shaS shaT
def dkX (l : List Int) (a n : Nat) : Int := if l.length ≤ a then 0 else (((l.getD a 0).tmod n + n).tmod n)
theorem tmod_bounds {x : Int} {n : Nat} (hn : 0 < n) : -(n : Int) < x.tmod n ∧ x.tmod n < n := by
 rcases Int.le_total 0 x with h | h
 ·have := Int.tmod_nonneg (n : Int) h
  have := Int.tmod_lt_of_pos x (show (0 : Int) < n by omega)
  omega
 ·have h1 : (-x).tmod n = -(x.tmod n) := Int.neg_tmod x n
  have := Int.tmod_nonneg (n : Int) (show 0 ≤ -x by omega)
  have := Int.tmod_lt_of_pos (-x) (show (0 : Int) < n by omega)
  omega
theorem dkX_bounds {l : List Int} {a n : Nat} (hn : 0 < n) : 0 ≤ dkX l a n ∧ dkX l a n < n := by
 unfold dkX
 split
 ·omega
 ·have h := tmod_bounds (x := l.getD a 0) hn
  exact ⟨Int.tmod_nonneg _ (by omega), Int.tmod_lt_of_pos _ (by omega)⟩

end Go.Proofs.YtnpndfmbkmbhbaaGreatDoor
