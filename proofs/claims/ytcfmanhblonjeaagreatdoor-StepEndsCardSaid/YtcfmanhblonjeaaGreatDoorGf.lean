/-
  CONTRACTS: Sum and Short.
  CONTRACTS: Sum and Short of the reference.
  CONTRACTS: Hex; Few; the examples of chapter 1.
  CONTRACTS: the parts of one-time signatures.
  CONTRACTS: join, public, Public.
  CONTRACTS: Public of the reference; OtsPublic.
  CONTRACTS: the deck, damage, OtsRecover.
  Conditions: none.
-/
import Derived.Test.YtcfmanhblonjeaaGreatDoorGe
import Derived.Test.YtcfmanhblonjeaaGreatDoorTab
import Derived.Test.YtcfmanhblonjeaaGreatDoorGd
namespace Go.Proofs.YtcfmanhblonjeaaGreatDoor
open Go.VS
set_option linter.all false
attribute [local irreducible] arun arunD AWp aend
theorem flat_succ (l : List (List UInt8)) (i : Nat) (h : i < l.length) : (l.take (i + 1)).flatten = (l.take i).flatten ++ l[i] := by
  rw [List.take_succ_eq_append_getElem h, List.flatten_append]; simp
theorem flat_le (l : List (List UInt8)) (i : Nat) (h : i < l.length) : (l.take i).flatten.length + (l[i]).length ≤ l.flatten.length := by
  have h1 : l.flatten.length = (l.take (i + 1)).flatten.length + (l.drop (i + 1)).flatten.length := by
    rw [← List.length_append, ← List.flatten_append, List.take_append_drop]
  rw [h1, flat_succ l i h, List.length_append]; omega
@[simp] theorem outB_length (h : List Int) : (outB h).length = 4 * h.length := by rw [← ob_all h h.length (Nat.le_refl _), ob_length _ _ (Nat.le_refl _)]
@[simp] theorem shaS_length (l : List UInt8) : (shaS l).length = 32 := by simp [shaS]
def shaT (l : List UInt8) : List UInt8 := (shaS l).take 16
end Go.Proofs.YtcfmanhblonjeaaGreatDoor
namespace Go.Proofs.YtcfmanhblonjeaaGreatDoor
open Go.VS
set_option linter.all false
attribute [local irreducible] arun arunD AWp aend
def tl8 (n : Nat) : Nat → List UInt8
  | 0 => List.replicate 8 0
  | i + 1 => (tl8 n i).set (7 - i) (be8 n (7 - i))
def ftail (n i : Nat) : List UInt8 := 128 :: List.replicate (padZ n) 0 ++ tl8 n i
@[simp] theorem tl8_length (n i : Nat) : (tl8 n i).length = 8 := by
  induction i with
  | zero => simp [tl8]
  | succ i ih => simp [tl8, ih]
@[simp] theorem ftail_length (n i : Nat) : (ftail n i).length = 9 + padZ n := by simp [ftail]; omega
theorem ftail_succ (n i : Nat) (h : i < 8) : ftail n (i + 1) = (ftail n i).set (8 + padZ n - i) (be8 n (7 - i)) := by
  rw [ftail, ftail, List.set_append_right _ _ (by simp; omega), tl8]
  congr 2
  simp; omega
theorem tl8_all (n : Nat) : tl8 n 8 = (List.range 8).map (be8 n) := rfl
theorem ftail_all (n : Nat) : ftail n 8 = padS n := by rw [ftail, tl8_all, padS]

theorem be8_int' (n i : Nat) (hi : i < 8) : V.int .u8 (IntKind.u8.wrap (8 * (n : Int) / 2 ^ (8 * (i : Int)).toNat)) = byteV (be8 n (7 - i)) := by
  rw [← be8_int n (7 - i) (by omega), Int.mul_comm 8 (n : Int), show (8 * (i : Int)).toNat = (8 * (7 - ((7 - i : Nat) : Int))).toNat by omega]

def rr (v : List Int) (i : Nat) : List V := if i = 0 then List.replicate 32 (.int .u8 0) else (ob v i).map byteV
theorem rr_take (v : List Int) (i : Nat) (h : i ≤ v.length) : List.take (4 * i) (rr v i) = (ob v i).map byteV := by
  unfold rr
  split
  · rename_i e; subst e; simp [ob]
  · rw [bytes_full (by rw [ob_length v i h]; omega)]
theorem rr_succ (v : List Int) (i : Nat) : rr v (i + 1) = (ob v (i + 1)).map byteV := by simp [rr]
theorem rr_length (v : List Int) (i : Nat) (h : i ≤ v.length) : 4 * i ≤ (rr v i).length := by
  unfold rr
  split
  · rename_i e; subst e; simp
  · simp [ob_length v i h]

def catN (l : List (List UInt8)) (i : Nat) : List UInt8 := (l.take i).flatten
theorem catN_succ (l : List (List UInt8)) (i : Nat) (h : i < l.length) : catN l (i + 1) = catN l i ++ l[i] := flat_succ l i h

set_option maxRecDepth 100000 in
set_option maxHeartbeats 4000000 in
theorem rsum_call (l : List (List UInt8)) (hl : l.length ≤ 1099511627776) (ht : l.flatten.length ≤ 1099511627776) : PCall Tryz.prog 119 [.sl l.length (l.map V.str)] (.str (shaS l.flatten)) := by
  refine pcall_body Tryz.func119 rfl Tryz.call119 ?_ ?_
  rotate_left 1
  refine awp_slots (s' := (.sl l.length (l.map V.str) : V) :: zJ 96) rfl ?_; dsimp only [zJ]
  repeat' (first | (refine Y0 rfl fun K9 h9 => ?_; simp (disch := first | exact dd | fail); (try simp (disch := first | exact de | fail) only [X7]); ((repeat (refine Yz ?_)); (first | refine h9 _ _ (Ys ?_)); clear h9 K9)) | refine Y6 ?_ | (refine Y8 fun K hK => ?_) | refine Y9 ?_ | (apply hK; clear hK K) | refine Ya ?_ | (refine Yb rfl ?_ ?_ <;> intro hcnd <;> (try simp at hcnd) <;> try exact dc) | refine Yc ?_ | (refine Yd ?_; simp only [X0, Nat.reduceBEq]) | (refine Ye ?_; refine Yf ?_) | refine Yg ?_ | (simp only [X0, Nat.reduceBEq]) | clear hK K)
  · refine awp_countU (fun i => (some V.junk :: none :: some V.junk :: some (V.str (catN l i)) :: none :: zS 8 (none :: some V.junk :: zN 2 (some (V.int .i64 i) :: zS 79 [])))) (fun i => []) l.length ?_ fun i hi KL hL => ?_
    · dsimp only [ups, zN, zS]
      exact Le.drop (by simp [catN])
    dsimp only [ups, zN, zS]
    rcases Nat.lt_or_ge i l.length with hi | hi
    · have hle : (catN l i).length + (l[i]).length ≤ l.flatten.length := flat_le l i hi
      repeat' (first | (refine Y0 rfl fun K9 h9 => ?_; simp (disch := first | exact dd | fail); (try simp (disch := first | exact de | fail) only [X7]); ((repeat (refine Yz ?_)); (first | refine h9 _ _ (Ys ?_)); clear h9 K9)) | refine Y6 ?_ | (refine Y8 fun K hK => ?_) | refine Y9 ?_ | (apply hK; clear hK K) | refine Ya ?_ | (refine Yb rfl ?_ ?_ <;> intro hcnd <;> (try simp at hcnd) <;> try exact dc) | refine Yc ?_ | (refine Yd ?_; simp only [X0, Nat.reduceBEq]) | (refine Ye ?_; refine Yf ?_) | refine Yg ?_ | (simp only [X0, Nat.reduceBEq]) | clear hK K)
      refine hL _ _ hi ?_
      exact Le.drop (by dsimp only [ups, zN, zS]; simp [catN_succ l i hi])
    obtain rfl : i = l.length := by omega
    rw [catN, List.take_length]
    generalize l.flatten = L at *
    iterate 31 (first | (refine Y0 rfl fun K9 h9 => ?_; simp (disch := first | exact dd | fail); (try simp (disch := first | exact de | fail) only [X7]); ((repeat (refine Yz ?_)); (first | refine h9 _ _ (Ys ?_)); clear h9 K9)) | refine Y6 ?_ | (refine Y8 fun K hK => ?_) | refine Y9 ?_ | (apply hK; clear hK K) | refine Ya ?_ | (refine Yb rfl ?_ ?_ <;> intro hcnd <;> (try simp at hcnd) <;> try exact dc) | refine Yc ?_ | (refine Yd ?_; simp only [X0, Nat.reduceBEq]) | (refine Ye ?_; refine Yf ?_) | refine Yg ?_ | (simp only [X0, Nat.reduceBEq]) | (clear hK K; first | (apply hK; clear hK K) | (clear hK K; first | (apply hK; clear hK K) | (clear hK K; first | (apply hK; clear hK K) | (clear hK K; apply hK; clear hK K)))))
    have hz : padZ L.length < 64 := Nat.mod_lt _ (by omega)
    refine awp_seq' fun K hK hL => ?_
    have main : K ((V.junk :: V.junk :: V.junk :: (V.str L) :: V.junk :: V.junk :: (V.osl 0 0 8 1) :: (V.int .i64 L.length) :: (V.int .i64 (padZ L.length)) :: V.junk :: V.junk :: V.junk :: V.junk :: V.junk :: V.junk :: V.junk :: V.junk :: V.junk :: V.junk :: V.junk :: V.junk :: V.junk :: V.junk :: V.junk :: V.junk :: V.junk :: V.junk :: V.junk :: V.junk :: V.junk :: V.junk :: V.junk :: V.junk :: V.junk :: V.junk :: V.junk :: V.junk :: V.junk :: V.junk :: V.junk :: V.junk :: V.junk :: V.junk :: V.junk :: V.junk :: V.junk :: V.junk :: V.junk :: V.junk :: V.junk :: V.junk :: V.junk :: V.junk :: V.junk :: V.junk :: V.junk :: V.junk :: V.junk :: V.junk :: V.junk :: V.junk :: V.junk :: V.junk :: V.junk :: V.junk :: V.junk :: V.junk :: V.junk :: V.junk :: V.junk :: V.junk :: V.junk :: V.junk :: V.junk :: V.junk :: V.junk :: V.junk :: V.junk :: V.junk :: V.junk :: V.junk :: V.junk :: V.junk :: V.junk :: V.junk :: V.junk :: V.junk :: V.junk :: V.junk :: V.junk :: V.junk :: V.junk :: V.junk :: V.junk :: V.junk :: V.junk :: V.junk :: [])) [.live (u32s h0L)] := by
      refine hK _ _ ?_
      clear hK hL K
      repeat' (first | (refine Y0 rfl fun K9 h9 => ?_; simp (disch := first | exact dd | fail); (try simp (disch := first | exact de | fail) only [X7]); ((repeat (refine Yz ?_)); (first | refine h9 _ _ (Ys ?_)); clear h9 K9)) | refine Y6 ?_ | (refine Y8 fun K hK => ?_) | refine Y9 ?_ | (apply hK; clear hK K) | refine Ya ?_ | (refine Yb rfl ?_ ?_ <;> intro hcnd <;> (try simp at hcnd) <;> try exact dc) | refine Yc ?_ | (refine Yd ?_; simp only [X0, Nat.reduceBEq]) | (refine Ye ?_; refine Yf ?_) | refine Yg ?_ | (simp only [X0, Nat.reduceBEq]) | clear hK K)
      have hn : (9 + (padZ L.length : Int)).toNat = 9 + padZ L.length := by omega
      rw [hn]
      have hr0 : (List.replicate (9 + padZ L.length) (V.int .u8 0)).set 0 (V.int .u8 128) = (ftail L.length 0).map byteV := by
        have : ftail L.length 0 = (List.replicate (9 + padZ L.length) 0).set 0 128 := by
          rw [ftail, tl8, show 9 + padZ L.length = padZ L.length + 8 + 1 by omega, show List.replicate (padZ L.length + 8 + 1) (0 : UInt8) = 0 :: List.replicate (padZ L.length + 8) 0 from rfl, List.set_cons_zero, ← List.replicate_append_replicate]; rfl
        rw [this, List.map_set, List.map_replicate]; rfl
      rw [hr0]
      refine awp_countU (fun i => (some V.junk :: none :: some V.junk :: zN 2 (some V.junk :: zN 2 (some V.junk :: none :: some (V.int .i64 i) :: zS 2 (none :: zS 83 []))))) (fun i => [.live (u32s h0L), .live ((ftail L.length i).map byteV)]) 8 ?_ fun i hi KL hL => ?_
      · dsimp only [ups, zN, zS]
        exact Yr [some 0, some 1] (by simp [rowsOver])
      dsimp only [ups, zN, zS]
      rcases Nat.lt_or_ge i 8 with hi | hi
      · have hs : (ftail L.length (i + 1)).map byteV = ((ftail L.length i).map byteV).set (8 + padZ L.length - i) (V.int .u8 (IntKind.u8.wrap (8 * (L.length : Int) / 2 ^ (8 * (i : Int)).toNat))) := by
          rw [be8_int' _ i hi, ftail_succ _ i hi, List.map_set]
        repeat' (first | (refine Y0 rfl fun K9 h9 => ?_; simp (disch := first | exact dd | fail) [hn]; (try simp (disch := first | exact de | fail) only [X7]); ((repeat (refine Yz ?_)); (first | refine h9 _ _ (Ys ?_)); clear h9 K9)) | refine Y6 ?_ | (refine Y8 fun K hK => ?_) | refine Y9 ?_ | (apply hK; clear hK K) | refine Ya ?_ | (refine Yb rfl ?_ ?_ <;> intro hcnd <;> (try simp at hcnd) <;> try exact dc) | refine Yc ?_ | (refine Yd ?_; simp only [X0, Nat.reduceBEq]) | (refine Ye ?_; refine Yf ?_) | refine Yg ?_ | (simp only [X0, Nat.reduceBEq]) | clear hK K)
        refine hL _ _ hi ?_
        rw [← hs]
        exact Yr [some 0, some 1] (by simp [rowsOver])
      obtain rfl : i = 8 := by omega
      have hpl := padS_length L.length
      repeat' (first | (refine Y0 rfl fun K9 h9 => ?_; simp (disch := first | exact dd | fail) [ftail_all, List.take_of_length_le, hpl]; (try simp (disch := first | exact de | fail) only [X7]); ((repeat (refine Yz ?_)); (first | refine h9 _ _ (Ys ?_)); clear h9 K9)) | refine Y6 ?_ | (refine Y8 fun K hK => ?_) | refine Y9 ?_ | (apply hK; clear hK K) | refine Ya ?_ | (refine Yb rfl ?_ ?_ <;> intro hcnd <;> (try simp at hcnd) <;> try exact dc) | refine Yc ?_ | (refine Yd ?_; simp only [X0, Nat.reduceBEq]) | (refine Ye ?_; refine Yf ?_) | refine Yg ?_ | (simp only [X0, Nat.reduceBEq]) | clear hK K)
      refine awp_freeze' 0 rfl (u32s_pures _) (by simp [fz, List.take_of_length_le]; rfl) (by simp [fzRow, fz]; rfl) ?_
      obtain ⟨B, hB⟩ : ∃ B, B = L ++ padS L.length := ⟨_, rfl⟩
      have hBl : B.length = L.length + (padS L.length).length := by simp [hB]
      have hBd : B.length % 64 = 0 := by rw [hBl]; exact pad_dvd L.length
      rw [← hB]
      refine awp_countU (fun k => (some V.junk :: none :: some V.junk :: zN 2 (some V.junk :: some (V.sl 8 (u32s (comp h0L B k))) :: zS 4 (some (V.int .i64 (64 * k)) :: some V.junk :: none :: zS 83 [])))) (fun k => []) (B.length / 64) ?_ fun k hk KL hL => ?_
      · dsimp only [ups, zN, zS]
        exact Le.drop (by simp [comp])
      dsimp only [ups, zN, zS]
      rcases Nat.lt_or_ge k (B.length / 64) with hk | hk
      · have e0 : (64 * (k : Int)).toNat = 64 * k := by omega
        have e1 : (64 * (k : Int) + 64).toNat = 64 * k + 64 := by omega
        repeat' (first | (refine Y0 rfl fun K9 h9 => ?_; simp (disch := first | exact dd | fail) [e0, e1]; (try simp (disch := first | exact de | fail) only [X7]); ((first | refine Ap (rround_call (comp h0L B k) ((B.drop (64 * k)).take 64) (by simp) (by simp; omega)) ?_ | skip) <;> ((repeat (refine Yz ?_)); (first | refine h9 _ _ (Ys ?_)); clear h9 K9))) | refine Y6 ?_ | (refine Y8 fun K hK => ?_) | refine Y9 ?_ | (apply hK; clear hK K) | refine Ya ?_ | (refine Yb rfl ?_ ?_ <;> intro hcnd <;> (try simp at hcnd) <;> try exact dc) | refine Yc ?_ | (refine Yd ?_; simp only [X0, Nat.reduceBEq]) | (refine Ye ?_; refine Yf ?_) | refine Yg ?_ | (simp only [X0, Nat.reduceBEq]) | clear hK K)
        refine hL _ _ hk ?_
        exact Le.drop (by dsimp only [ups, zN, zS]; simp [comp]; omega)
      obtain rfl : k = B.length / 64 := by omega
      obtain ⟨v, hv⟩ : ∃ v, v = comp h0L B (B.length / 64) := ⟨_, rfl⟩
      have hvl : v.length = 8 := by simp [hv]
      have hvo : shaS L = outB v := by rw [shaS, hOf, hv, hB]
      rw [← hv]
      repeat' (first | (refine Y0 rfl fun K9 h9 => ?_; simp (disch := first | exact dd | fail) [hvl]; (try simp (disch := first | exact de | fail) only [X7]); ((repeat (refine Yz ?_)); (first | refine h9 _ _ (Ys ?_)); clear h9 K9)) | refine Y6 ?_ | (refine Y8 fun K hK => ?_) | refine Y9 ?_ | (apply hK; clear hK K) | refine Ya ?_ | (refine Yb rfl ?_ ?_ <;> intro hcnd <;> (try simp at hcnd) <;> try exact dc) | refine Yc ?_ | (refine Yd ?_; simp only [X0, Nat.reduceBEq]) | (refine Ye ?_; refine Yf ?_) | refine Yg ?_ | (simp only [X0, Nat.reduceBEq]) | clear hK K)
      refine awp_countU (fun i => (some V.junk :: none :: zS 2 (none :: zS 7 (some (V.osl 0 0 (4 * i) 1) :: none :: zS 60 (zN 2 (some (V.int .i64 i) :: zS 20 [])))))) (fun i => [.live (rr v i)]) 8 ?_ fun i hi KL hL => ?_
      · dsimp only [ups, zN, zS]
        exact Yr [some 0] (by simp [rowsOver, rr])
      dsimp only [ups, zN, zS]
      have hol := rr_take v i (by omega)
      have hrl := rr_length v i (by omega)
      rcases Nat.lt_or_ge i 8 with hi | hi
      · repeat' (first | (refine Y0 rfl fun K9 h9 => ?_; simp (disch := first | exact dd | fail) [hvl, hol]; (try simp (disch := first | exact de | fail) only [X7]); ((repeat (refine Yz ?_)); (first | refine h9 _ _ (Ys ?_)); clear h9 K9)) | refine Y6 ?_ | (refine Y8 fun K hK => ?_) | refine Y9 ?_ | (apply hK; clear hK K) | refine Ya ?_ | (refine Yb rfl ?_ ?_ <;> intro hcnd <;> (try simp at hcnd) <;> try exact dc) | refine Yc ?_ | (refine Yd ?_; simp only [X0, Nat.reduceBEq]) | (refine Ye ?_; refine Yf ?_) | refine Yg ?_ | (simp only [X0, Nat.reduceBEq]) | clear hK K)
        refine hL _ _ hi ?_
        exact Yr [some 2] (by simp [rowsOver, rr_succ, ob_succ v i (by omega), wbytes, u8_int])
      obtain rfl : i = 8 := by omega
      repeat' (first | (refine Y0 rfl fun K9 h9 => ?_; simp (disch := first | exact dd | fail) [hol]; (try simp (disch := first | exact de | fail) only [X7]); ((repeat (refine Yz ?_)); (first | refine h9 _ _ (Ys ?_)); clear h9 K9)) | refine Y6 ?_ | (refine Y8 fun K hK => ?_) | refine Y9 ?_ | (apply hK; clear hK K) | refine Ya ?_ | (refine Yb rfl ?_ ?_ <;> intro hcnd <;> (try simp at hcnd) <;> try exact dc) | refine Yc ?_ | (refine Yd ?_; simp only [X0, Nat.reduceBEq]) | (refine Ye ?_; refine Yf ?_) | refine Yg ?_ | (simp only [X0, Nat.reduceBEq]) | clear hK K)
      rw [rr_succ v 7, ob_all v 8 (by omega)]
      simp [List.take_of_length_le, hvo, hvl]
      exact .pure .str
    repeat' (first | (refine Y0 rfl fun K9 h9 => ?_; simp (disch := first | exact dd | fail); (try simp (disch := first | exact de | fail) only [X7]); ((repeat (refine Yz ?_)); (first | refine h9 _ _ (Ys ?_)); clear h9 K9)) | refine Y6 ?_ | (refine Y8 fun K hK => ?_) | refine Y9 ?_ | (apply hK; clear hK K) | refine Ya ?_ | (refine Yb rfl ?_ ?_ <;> intro hcnd <;> (try simp at hcnd) <;> try exact dc) | refine Yc ?_ | (refine Yd ?_; simp only [X0, Nat.reduceBEq]) | (refine Ye ?_; refine Yf ?_) | refine Yg ?_ | (simp only [X0, Nat.reduceBEq]) | clear hK K)
    · have e : (padZ L.length : Int) = 0 := by unfold padZ; omega
      exact hL _ _ _ _ (Le.mk [some 0] (by simp [e]) (rowsRen_of (by simp) (by simp [rowsOver, u32s, h0L])) (by simp)) main
    · have e : (padZ L.length : Int) = 64 - (L.length + 9) % 64 := by unfold padZ; omega
      exact hL _ _ _ _ (Le.mk [some 0] (by simp [e]) (rowsRen_of (by simp) (by simp [rowsOver, u32s, h0L])) (by simp)) main
  · exact .str
theorem rshort_call (l : List (List UInt8)) (hl : l.length ≤ 1099511627776) (ht : l.flatten.length ≤ 1099511627776) : PCall Tryz.prog 115 [.sl l.length (l.map V.str)] (.str (shaT l.flatten)) := by
  refine pcall_body Tryz.func115 rfl Tryz.call115 ?_ ?_
  rotate_left 1
  refine awp_slots (s' := (.sl l.length (l.map V.str) : V) :: zJ 5) rfl ?_; dsimp only [zJ]
  repeat' (first | (refine Y0 rfl fun K9 h9 => ?_; simp (disch := first | exact dd | fail); (try simp (disch := first | exact de | fail) only [X7]); ((first | refine Ap (rsum_call l hl ht) ?_ | skip) <;> ((repeat (refine Yz ?_)); (first | refine h9 _ _ (Ys ?_)); clear h9 K9))) | refine Y6 ?_ | (refine Y8 fun K hK => ?_) | refine Y9 ?_ | (apply hK; clear hK K) | (refine Ye ?_; refine Yf ?_) | refine Yg ?_ | (simp only [X0, Nat.reduceBEq]) | clear hK K)
  · simp
    exact .pure .str
  · exact .str
end Go.Proofs.YtcfmanhblonjeaaGreatDoor
namespace Go.Proofs.YtcfmanhblonjeaaGreatDoor
open Go.VS
set_option linter.all false
attribute [local irreducible] arun arunD AWp aend
@[simp] theorem shaT_length (l : List UInt8) : (shaT l).length = 16 := by simp [shaT]
end Go.Proofs.YtcfmanhblonjeaaGreatDoor
namespace Go.Proofs.YtcfmanhblonjeaaGreatDoor
open Go.VS
set_option linter.all false
set_option maxRecDepth 100000
attribute [local irreducible] arun arunD AWp aend shaS shaT
def b1S (n : Int) : List UInt8 := [UInt8.ofNat (n % 256).toNat]
@[simp] theorem wbytes_length (n : Int) : (wbytes n).length = 4 := rfl
@[simp] theorem b1S_length (n : Int) : (b1S n).length = 1 := rfl
theorem u8_byte (n : Int) : UInt8.ofNat (IntKind.u8.wrap n).toNat = UInt8.ofNat (n % 256).toNat := by rw [wrap_u8']

theorem rb4_call (n : Int) : PCall Tryz.prog 118 [.int .i64 n] (.str (wbytes n)) := by
  refine pcall_body Tryz.func118 rfl Tryz.call118 ?_ ?_
  rotate_left 1
  refine awp_slots (s' := (.int .i64 n : V) :: zJ 15) rfl ?_; dsimp only [zJ]
  repeat' (first | (refine Y0 rfl fun K9 h9 => ?_; simp (disch := first | exact dd | fail); (try simp (disch := first | exact de | fail) only [X7]); ((repeat (refine Yz ?_)); (first | refine h9 _ _ (Ys ?_)); clear h9 K9)) | refine Y6 ?_ | (refine Y8 fun K hK => ?_) | refine Y9 ?_ | (apply hK; clear hK K) | (refine Ye ?_; refine Yf ?_) | refine Yg ?_ | (simp only [X0, Nat.reduceBEq]) | clear hK K)
  · simp [u8_byte, wbytes]
    exact .pure .str
  · exact .str
theorem rb1_call (n : Int) : PCall Tryz.prog 117 [.int .i64 n] (.str (b1S n)) := by
  refine pcall_body Tryz.func117 rfl Tryz.call117 ?_ ?_
  rotate_left 1
  refine awp_slots (s' := (.int .i64 n : V) :: zJ 6) rfl ?_; dsimp only [zJ]
  repeat' (first | (refine Y0 rfl fun K9 h9 => ?_; simp (disch := first | exact dd | fail); (try simp (disch := first | exact de | fail) only [X7]); ((repeat (refine Yz ?_)); (first | refine h9 _ _ (Ys ?_)); clear h9 K9)) | refine Y6 ?_ | (refine Y8 fun K hK => ?_) | refine Y9 ?_ | (apply hK; clear hK K) | (refine Ye ?_; refine Yf ?_) | refine Yg ?_ | (simp only [X0, Nat.reduceBEq]) | clear hK K)
  · simp [u8_byte, b1S]
    exact .pure .str
  · exact .str

def secS (seed : List UInt8) (leaf c : Int) : List UInt8 := shaT ([83] ++ seed ++ wbytes leaf ++ b1S c)
@[simp] theorem secS_length (seed : List UInt8) (leaf c : Int) : (secS seed leaf c).length = 16 := by rw [secS, shaT_length]
theorem rsecret_call (seed : List UInt8) (leaf c : Int) (hs : seed.length ≤ 1000) : PCall Tryz.prog 134 [.str seed, .int .i64 leaf, .int .i64 c] (.str (secS seed leaf c)) := by
  refine pcall_body Tryz.func134 rfl Tryz.call134 ?_ ?_
  rotate_left 1
  refine awp_slots (s' := (.str seed : V) :: (.int .i64 leaf : V) :: (.int .i64 c : V) :: zJ 11) rfl ?_; dsimp only [zJ]
  repeat' (first | (refine Y0 rfl fun K9 h9 => ?_; simp (disch := first | exact dd | fail); (try simp (disch := first | exact de | fail) only [X7]); ((first | refine Ap (rb4_call _) ?_ | refine Ap (rb1_call _) ?_ | refine acall_view (rshort_call [[83], seed, wbytes leaf, b1S c] (by simp) (by simp; omega)) ⟨view_row rfl (by simp) (by simp), trivial⟩ .str ?_ | skip) <;> ((repeat (refine Yz ?_)); (first | refine h9 _ _ (Ys ?_)); clear h9 K9))) | refine Y6 ?_ | (refine Y8 fun K hK => ?_) | refine Y9 ?_ | (apply hK; clear hK K) | (refine Ye ?_; refine Yf ?_) | refine Yg ?_ | (simp only [X0, Nat.reduceBEq]) | clear hK K)
  · simp [secS]
    exact .pure .str
  · exact .str

def walkN (id : List UInt8) (leaf c : Int) (f : Nat) (v : List UInt8) : Nat → List UInt8
  | 0 => v
  | k + 1 => shaT ([67] ++ id ++ wbytes leaf ++ b1S c ++ b1S (f + k : Nat) ++ walkN id leaf c f v k)
def walkS (id : List UInt8) (leaf c : Int) (f t : Nat) (v : List UInt8) : List UInt8 := walkN id leaf c f v (t - f)
theorem walkN_length (id : List UInt8) (leaf c : Int) (f : Nat) (v : List UInt8) (hv : v.length = 16) : ∀ k, (walkN id leaf c f v k).length = 16
  | 0 => hv
  | k + 1 => by rw [walkN, shaT_length]
theorem walkS_length (id : List UInt8) (leaf c : Int) (f t : Nat) (v : List UInt8) (hv : v.length = 16) : (walkS id leaf c f t v).length = 16 := walkN_length id leaf c f v hv _

theorem rwalk_call (id : List UInt8) (leaf c : Int) (f t : Nat) (v : List UInt8) (hi : id.length ≤ 1000) (hv : v.length = 16) (hft : f ≤ t) (ht : t ≤ 1000) :
    PCall Tryz.prog 133 [.str id, .int .i64 leaf, .int .i64 c, .int .i64 f, .int .i64 t, .str v] (.str (walkS id leaf c f t v)) := by
  refine pcall_body Tryz.func133 rfl Tryz.call133 ?_ ?_
  rotate_left 1
  refine awp_slots (s' := (.str id : V) :: (.int .i64 leaf : V) :: (.int .i64 c : V) :: (.int .i64 f : V) :: (.int .i64 t : V) :: (.str v : V) :: zJ 25) rfl ?_; dsimp only [zJ]
  repeat' (first | (refine Y0 rfl fun K9 h9 => ?_; simp (disch := first | exact dd | fail); (try simp (disch := first | exact de | fail) only [X7]); ((repeat (refine Yz ?_)); (first | refine h9 _ _ (Ys ?_)); clear h9 K9)) | refine Y6 ?_ | (refine Y8 fun K hK => ?_) | refine Y9 ?_ | (apply hK; clear hK K) | refine Ya ?_ | (refine Yb rfl ?_ ?_ <;> intro hcnd <;> (try simp at hcnd) <;> try exact dc) | refine Yc ?_ | (refine Yd ?_; simp only [X0, Nat.reduceBEq]) | (refine Ye ?_; refine Yf ?_) | refine Yg ?_ | (simp only [X0, Nat.reduceBEq]) | clear hK K)
  · refine awp_countU (fun k => (zN 3 (some V.junk :: none :: some (V.str (walkN id leaf c f v k)) :: zN 6 (some V.junk :: some (V.int .i64 ((f + k : Nat) : Int)) :: zS 17 [])))) (fun k => []) (t - f) ?_ fun k hk KL hL => ?_
    · dsimp only [ups, zN, zS]
      exact Le.drop (by simp [walkN])
    dsimp only [ups, zN, zS]
    have hwl := walkN_length id leaf c f v hv k
    rcases Nat.lt_or_ge k (t - f) with hk | hk
    · repeat' (first | (refine Y0 rfl fun K9 h9 => ?_; simp (disch := first | exact dd | fail); (try simp (disch := first | exact de | fail) only [X7]); ((first | refine Ap (rb4_call _) ?_ | refine Ap (rb1_call _) ?_ | refine acall_view (rshort_call [[67], id, wbytes leaf, b1S c, b1S (f + k : Nat), walkN id leaf c f v k] (by simp) (by simp; omega)) ⟨view_row rfl (by simp) (by simp), trivial⟩ .str ?_ | skip) <;> ((repeat (refine Yz ?_)); (first | refine h9 _ _ (Ys ?_)); clear h9 K9))) | refine Y6 ?_ | (refine Y8 fun K hK => ?_) | refine Y9 ?_ | (apply hK; clear hK K) | refine Ya ?_ | (refine Yb rfl ?_ ?_ <;> intro hcnd <;> (try simp at hcnd) <;> try exact dc) | refine Yc ?_ | (refine Yd ?_; simp only [X0, Nat.reduceBEq]) | (refine Ye ?_; refine Yf ?_) | refine Yg ?_ | (simp only [X0, Nat.reduceBEq]) | clear hK K)
      refine hL _ _ hk ?_
      exact Le.drop (by dsimp only [ups, zN, zS]; simp [walkN]; omega)
    obtain rfl : k = t - f := by omega
    repeat' (first | (refine Y0 rfl fun K9 h9 => ?_; simp (disch := first | exact dd | fail); (try simp (disch := first | exact de | fail) only [X7]); ((repeat (refine Yz ?_)); (first | refine h9 _ _ (Ys ?_)); clear h9 K9)) | refine Y6 ?_ | (refine Y8 fun K hK => ?_) | refine Y9 ?_ | (apply hK; clear hK K) | refine Ya ?_ | (refine Yb rfl ?_ ?_ <;> intro hcnd <;> (try simp at hcnd) <;> try exact dc) | refine Yc ?_ | (refine Yd ?_; simp only [X0, Nat.reduceBEq]) | (refine Ye ?_; refine Yf ?_) | refine Yg ?_ | (simp only [X0, Nat.reduceBEq]) | clear hK K)
    simp [walkS]
    exact .pure .str
  · exact .str


def leafE (id : List UInt8) (leaf : Int) : Int := if id.length ≠ 16 then 18 else if leaf < 0 ∨ 256 ≤ leaf then 1 else 0
def seedE (id seed : List UInt8) (leaf : Int) : Int := if id.length ≠ 16 ∨ seed.length ≠ 32 then 18 else leafE id leaf
theorem rcheck_call (id seed : List UInt8) (leaf : Int) (hi : id.length ≤ 140737488355328) (hs : seed.length ≤ 140737488355328) : PCall Tryz.prog 132 [.str id, .str seed, .int .i64 leaf] (.int .i64 (seedE id seed leaf)) := by
  refine pcall_body Tryz.func132 rfl Tryz.call132 ?_ ?_
  rotate_left 1
  refine awp_slots (s' := (.str id : V) :: (.str seed : V) :: (.int .i64 leaf : V) :: zJ 18) rfl ?_; dsimp only [zJ]
  by_cases h1 : (id.length : Int) = 16 <;> by_cases h2 : (seed.length : Int) = 32 <;> by_cases h3 : leaf < 0 <;> by_cases h4 : 256 ≤ leaf <;> (try (exfalso; omega)) <;> (
  repeat' (first | ((first | refine Y0 rfl fun K9 h9 => ?_ | (refine Y3 ?_ ?_; (focus (simp [h1, h2, h3, h4]; done)); intro K9 h9)); simp (disch := first | exact dd | fail) [h1, h2, h3, h4]; (try simp (disch := first | exact de | fail) only [X7]); ((repeat (refine Yz ?_)); (first | refine h9 _ _ (Ys ?_)); clear h9 K9)) | refine Y6 ?_ | (refine Y8 fun K hK => ?_) | refine Y9 ?_ | (apply hK; clear hK K) | (refine Yb rfl ?_ ?_ <;> intro hcnd <;> (try simp at hcnd) <;> try exact dc) | refine Yc ?_ | (refine Ye ?_; refine Yf ?_) | (refine Yh ?_ ?_; (focus (simp [h1, h2, h3, h4]; done)); refine Ys ?_) | refine Yg ?_ | (simp only [X0, Nat.reduceBEq]) | clear hK K)
  first
  | (rw [show seedE id seed leaf = 18 by unfold seedE; rw [if_pos (by omega)]]; simp; exact .pure .int)
  | (rw [show seedE id seed leaf = 1 by unfold seedE leafE; rw [if_neg (by omega), if_neg (by omega), if_pos (by omega)]]; simp; exact .pure .int)
  | (rw [show seedE id seed leaf = 0 by unfold seedE leafE; rw [if_neg (by omega), if_neg (by omega), if_neg (by omega)]]; simp; exact .pure .int))
  · exact .int

end Go.Proofs.YtcfmanhblonjeaaGreatDoor
namespace Go.Proofs.YtcfmanhblonjeaaGreatDoor
open Go.VS
set_option linter.all false
set_option maxRecDepth 100000
attribute [local irreducible] arun arunD AWp aend shaS shaT
theorem catN_len {l : List (List UInt8)} (hl : ∀ x ∈ l, x.length = 16) : ∀ i, i ≤ l.length → (catN l i).length = 16 * i
  | 0, _ => by simp [catN]
  | i + 1, h => by
    rw [catN_succ l i (by omega), List.length_append, catN_len hl i (by omega), hl _ (List.getElem_mem _)]; omega
def pubS (id : List UInt8) (leaf : Int) (ends : List (List UInt8)) : List UInt8 := shaT ([76] ++ id ++ wbytes leaf ++ ends.flatten)
theorem flat16 {l : List (List UInt8)} (hl : ∀ x ∈ l, x.length = 16) : l.flatten.length = 16 * l.length := by
  have := catN_len hl l.length (Nat.le_refl _)
  rwa [catN, List.take_length] at this
def chains (id seed : List UInt8) (leaf : Int) (k : Nat) : List (List UInt8) := (List.range k).map fun (c : Nat) => walkS id leaf (c : Int) 0 15 (secS seed leaf (c : Int))
@[simp] theorem chains_length (id seed : List UInt8) (leaf : Int) (k : Nat) : (chains id seed leaf k).length = k := by simp [chains]
theorem chains_succ (id seed : List UInt8) (leaf : Int) (k : Nat) : chains id seed leaf (k + 1) = chains id seed leaf k ++ [walkS id leaf (k : Int) 0 15 (secS seed leaf k)] := by simp [chains, List.range_succ]
theorem chains_16 (id seed : List UInt8) (leaf : Int) (k : Nat) : ∀ x ∈ chains id seed leaf k, x.length = 16 := by
  intro x hx
  obtain ⟨c, -, rfl⟩ := List.mem_map.1 hx
  exact walkS_length _ _ _ _ _ _ (secS_length _ _ _)
def pubV (id seed : List UInt8) (leaf : Int) : V := if seedE id seed leaf = 0 then .tup [.str (pubS id leaf (chains id seed leaf 35)), .int .i64 0] else .tup [.str [], .int .i64 (seedE id seed leaf)]
theorem seedE_zero {id seed : List UInt8} {leaf : Int} (h : seedE id seed leaf = 0) : id.length = 16 ∧ seed.length = 32 ∧ 0 ≤ leaf ∧ leaf < 256 := by
  unfold seedE leafE at h
  split at h
  · omega
  · split at h
    · omega
    · split at h
      · omega
      · omega

end Go.Proofs.YtcfmanhblonjeaaGreatDoor
namespace Go.Proofs.YtcfmanhblonjeaaGreatDoor
open Go.VS
set_option linter.all false
set_option maxRecDepth 100000
attribute [local irreducible] arun arunD AWp aend shaS shaT
theorem chains_flat (id seed : List UInt8) (leaf : Int) (k : Nat) : (chains id seed leaf k).flatten.length = 16 * k := by rw [flat16 (chains_16 id seed leaf k), chains_length]
def chF (id seed : List UInt8) (leaf : Int) (k : Nat) : List UInt8 := (chains id seed leaf k).flatten
theorem chF_length (id seed : List UInt8) (leaf : Int) (k : Nat) : (chF id seed leaf k).length = 16 * k := chains_flat id seed leaf k
theorem chF_succ (id seed : List UInt8) (leaf : Int) (k : Nat) : chF id seed leaf (k + 1) = chF id seed leaf k ++ walkS id leaf (k : Int) 0 15 (secS seed leaf (k : Int)) := by simp [chF, chains_succ]

set_option maxRecDepth 100000 in
theorem ropublic_call (id seed : List UInt8) (leaf : Int) (hi : id.length ≤ 140737488355328) (hs : seed.length ≤ 140737488355328) : PCall Tryz.prog 116 [.str id, .str seed, .int .i64 leaf] (pubV id seed leaf) := by
  refine pcall_body Tryz.func116 rfl Tryz.call116 ?_ ?_
  rotate_left 1
  refine awp_slots (s' := (.str id : V) :: (.str seed : V) :: (.int .i64 leaf : V) :: zJ 35) rfl ?_; dsimp only [zJ]
  by_cases h0 : seedE id seed leaf = 0
  · obtain ⟨a1, a2, a3, a4⟩ := seedE_zero h0
    repeat' (first | (refine Y0 rfl fun K9 h9 => ?_; simp (disch := first | exact dd | fail) [h0]; (try simp (disch := first | exact de | fail) only [X7]); ((first | refine Ap (rcheck_call id seed leaf hi hs) ?_ | skip) <;> ((repeat (refine Yz ?_)); (first | refine h9 _ _ (Ys ?_)); clear h9 K9))) | refine Y6 ?_ | (refine Y8 fun K hK => ?_) | refine Y9 ?_ | (apply hK; clear hK K) | refine Ya ?_ | (refine Yb rfl ?_ ?_ <;> intro hcnd <;> (try simp at hcnd) <;> try exact dc) | refine Yc ?_ | (refine Yd ?_; simp only [X0, Nat.reduceBEq]) | (refine Ye ?_; refine Yf ?_) | refine Yg ?_ | (simp only [X0, Nat.reduceBEq]) | clear hK K)
    refine awp_countU (fun k => (zN 6 (zS 3 (some (V.str (chF id seed leaf k)) :: some (V.int .i64 k) :: zS 27 [])))) (fun k => []) 35 ?_ fun k hk KL hL => ?_
    · dsimp only [ups, zN, zS]
      exact Le.drop (by simp [chF, chains])
    dsimp only [ups, zN, zS]
    have hcl := chF_length id seed leaf k
    have hwl := walkS_length id leaf (k : Int) 0 15 (secS seed leaf k) (secS_length _ _ _)
    rcases Nat.lt_or_ge k 35 with hk | hk
    · repeat' (first | (refine Y0 rfl fun K9 h9 => ?_; simp (disch := first | exact dd | fail); (try simp (disch := first | exact de | fail) only [X7]); ((first | refine Ap (rsecret_call seed leaf k (by omega)) ?_ | refine Ap (rwalk_call id leaf k 0 15 (secS seed leaf k) (by omega) (secS_length _ _ _) (by omega) (by omega)) ?_ | skip) <;> ((repeat (refine Yz ?_)); (first | refine h9 _ _ (Ys ?_)); clear h9 K9))) | refine Y6 ?_ | (refine Y8 fun K hK => ?_) | refine Y9 ?_ | (apply hK; clear hK K) | refine Ya ?_ | (refine Yb rfl ?_ ?_ <;> intro hcnd <;> (try simp at hcnd) <;> try exact dc) | refine Yc ?_ | (refine Yd ?_; simp only [X0, Nat.reduceBEq]) | (refine Ye ?_; refine Yf ?_) | refine Yg ?_ | (simp only [X0, Nat.reduceBEq]) | clear hK K)
      refine hL _ _ hk ?_
      exact Le.drop (by dsimp only [ups, zN, zS]; simp [chF_succ])
    obtain rfl : k = 35 := by omega
    repeat' (first | (refine Y0 rfl fun K9 h9 => ?_; simp (disch := first | exact dd | fail); (try simp (disch := first | exact de | fail) only [X7]); ((first | refine Ap (rb4_call _) ?_ | refine acall_view (rshort_call [[76], id, wbytes leaf, chF id seed leaf 35] (by simp) (by simp; omega)) ⟨view_row rfl (by simp) (by simp), trivial⟩ .str ?_ | skip) <;> ((repeat (refine Yz ?_)); (first | refine h9 _ _ (Ys ?_)); clear h9 K9))) | refine Y6 ?_ | (refine Y8 fun K hK => ?_) | refine Y9 ?_ | (apply hK; clear hK K) | refine Ya ?_ | (refine Yb rfl ?_ ?_ <;> intro hcnd <;> (try simp at hcnd) <;> try exact dc) | refine Yc ?_ | (refine Yd ?_; simp only [X0, Nat.reduceBEq]) | (refine Ye ?_; refine Yf ?_) | refine Yg ?_ | (simp only [X0, Nat.reduceBEq]) | clear hK K)
    rw [pubV, if_pos h0]
    simp [pubS, chF]
    exact .pure (by simp)
  · repeat' (first | (refine Y0 rfl fun K9 h9 => ?_; simp (disch := first | exact dd | fail) [h0]; (try simp (disch := first | exact de | fail) only [X7]); ((first | refine Ap (rcheck_call id seed leaf hi hs) ?_ | skip) <;> ((repeat (refine Yz ?_)); (first | refine h9 _ _ (Ys ?_)); clear h9 K9))) | refine Y6 ?_ | (refine Y8 fun K hK => ?_) | refine Y9 ?_ | (apply hK; clear hK K) | refine Ya ?_ | (refine Yb rfl ?_ ?_ <;> intro hcnd <;> (try simp at hcnd) <;> try exact dc) | refine Yc ?_ | (refine Yd ?_; simp only [X0, Nat.reduceBEq]) | (refine Ye ?_; refine Yf ?_) | refine Yg ?_ | (simp only [X0, Nat.reduceBEq]) | clear hK K)
    rw [pubV, if_neg h0]
    simp
    exact .pure (by simp)
  · unfold pubV; split <;> simp

def mseedS (k : Int) : List UInt8 := shaS ([115, 101, 101, 100] ++ wbytes k)
@[simp] theorem mseedS_length (k : Int) : (mseedS k).length = 32 := by rw [mseedS, shaS_length]
theorem mseed_call (k : Int) : PCall Tryz.prog 97 [.int .i64 k] (.str (mseedS k)) := by
  refine pcall_body Tryz.func97 rfl Tryz.call97 ?_ ?_
  rotate_left 1
  refine awp_slots (s' := (.int .i64 k : V) :: zJ 6) rfl ?_; dsimp only [zJ]
  repeat' (first | (refine Y0 rfl fun K9 h9 => ?_; simp (disch := first | exact dd | fail); (try simp (disch := first | exact de | fail) only [X7]); ((first | refine Ap (rb4_call _) ?_ | refine acall_view (rsum_call [[115, 101, 101, 100], wbytes k] (by simp) (by simp)) ⟨view_row rfl (by simp) (by simp), trivial⟩ .str ?_ | skip) <;> ((repeat (refine Yz ?_)); (first | refine h9 _ _ (Ys ?_)); clear h9 K9))) | refine Y6 ?_ | (refine Y8 fun K hK => ?_) | refine Y9 ?_ | (apply hK; clear hK K) | (refine Ye ?_; refine Yf ?_) | refine Yg ?_ | (simp only [X0, Nat.reduceBEq]) | clear hK K)
  · simp [mseedS]
    exact .pure .str
  · exact .str
end Go.Proofs.YtcfmanhblonjeaaGreatDoor
namespace Go.Proofs.YtcfmanhblonjeaaGreatDoor
open Go.VS
set_option linter.all false
attribute [local irreducible] arun arunD AWp aend shaS shaT
def dk (l : List Int) (a : Nat) : List V := [.sl l.length (l.map (V.int .i64)), .int .i64 a]
def dkA (l : List Int) (a : Nat) : Nat := if l.length ≤ a then a else a + 1
def dkX (l : List Int) (a n : Nat) : Int := if l.length ≤ a then 0 else (((l.getD a 0).tmod n + n).tmod n)
@[simp] theorem dk_pures (l : List Int) (a : Nat) : Pures (dk l a) := by simp [dk]
theorem tmod_bounds {x : Int} {n : Nat} (hn : 0 < n) : -(n : Int) < x.tmod n ∧ x.tmod n < n := by
  rcases Int.le_total 0 x with h | h
  · have := Int.tmod_nonneg (n : Int) h
    have := Int.tmod_lt_of_pos x (show (0 : Int) < n by omega)
    omega
  · have h1 : (-x).tmod n = -(x.tmod n) := Int.neg_tmod x n
    have := Int.tmod_nonneg (n : Int) (show 0 ≤ -x by omega)
    have := Int.tmod_lt_of_pos (-x) (show (0 : Int) < n by omega)
    omega
theorem dkX_bounds {l : List Int} {a n : Nat} (hn : 0 < n) : 0 ≤ dkX l a n ∧ dkX l a n < n := by
  unfold dkX
  split
  · omega
  · have h := tmod_bounds (x := l.getD a 0) hn
    exact ⟨Int.tmod_nonneg _ (by omega), Int.tmod_lt_of_pos _ (by omega)⟩

theorem deck_call (l : List Int) : NCall Tryz.prog 4 [.sl l.length (l.map (V.int .i64))] (dk l 0) := by
  refine ncall_body Tryz.func4 rfl Tryz.call4 ?_
  refine awp_slots (s' := (.sl l.length (l.map (V.int .i64)) : V) :: zJ 5) rfl ?_; dsimp only [zJ]
  refine awp_seq fun K hK => ?_
  refine awp_region ?_
  iterate 1 (first | (refine arun_no ?_ ?_; (focus (simp; done)); dsimp only [sput, sset]) | (refine arun_go (by simp; done) fun K9 h9 => ?_; simp; refine h9 _ _ ?_; clear h9 K9; dsimp only [sput, sset]))
  refine arun_end ?_
  refine hK _ _ ?_; clear hK K
  refine awp_seq fun K hK => ?_
  refine awp_region ?_
  iterate 4 (first | (refine arun_no ?_ ?_; (focus (simp; done)); dsimp only [sput, sset]) | (refine arun_go (by simp; done) fun K9 h9 => ?_; simp; refine h9 _ _ ?_; clear h9 K9; dsimp only [sput, sset]))
  refine arun_end ?_
  refine hK _ _ ?_; clear hK K
  refine awp_ret ?_
  refine ret_go ?_
  simp [dk]

set_option maxRecDepth 100000 in
set_option maxHeartbeats 4000000 in
theorem next_call (l : List Int) (a n : Nat) (hl : l.length ≤ 140737488355328) (ha : a ≤ l.length) (hn : 0 < n) (hn2 : n ≤ 1099511627776) (hr : ∀ k ∈ l, -9223372036854775808 ≤ k ∧ k ≤ 9223372036854775807) :
    MCall Tryz.prog 7 [.ref 0 0, .int .i64 n] (dk l a) (dk l (dkA l a)) (.int .i64 (dkX l a n)) := by
  refine mcall_body Tryz.func7 rfl Tryz.call7 ?_ ?_ ?_
  rotate_left 2
  refine awp_slots (s' := (.ref 0 0 : V) :: (.int .i64 n : V) :: zJ 37) rfl ?_; dsimp only [zJ]
  by_cases h : l.length ≤ a
  · rw [show dkA l a = a by rw [dkA, if_pos h], show dkX l a n = 0 by rw [dkX, if_pos h]]
    unfold dk
    repeat' (first | ((first | refine Y0 rfl fun K9 h9 => ?_ | refine Y1 rfl rfl fun K9 h9 => ?_ | refine Y2 rfl rfl fun K9 h9 => ?_); simp (disch := first | exact dd | fail) [h]; (try simp (disch := first | exact de | fail) only [X7]); ((repeat (refine Yz ?_)); (first | refine h9 _ _ (Ys ?_) | refine h9 _ _ (Yt ?_)); clear h9 K9)) | refine Y6 ?_ | refine Y7 ?_ | (refine Y8 fun K hK => ?_) | refine Y9 ?_ | (apply hK; clear hK K) | ((first | refine Yk (m := 0) (by decide +kernel) [] (by kernel_rfl) (by decide +kernel) ?_); simp only [List.replicate, XL]) | (refine Yb rfl ?_ ?_ <;> intro hcnd <;> (try simp at hcnd) <;> try exact dc) | refine Yc ?_ | (refine Ye ?_; refine Yf ?_) | refine Yg ?_ | (simp only [X0, Nat.reduceBEq]) | clear hK K)
    simp
    exact mend_plain
  · rw [show dkA l a = a + 1 by rw [dkA, if_neg h], show dkX l a n = ((l.getD a 0).tmod n + n).tmod n by rw [dkX, if_neg h]]
    unfold dk
    have hg : l[a]? = some (l.getD a 0) := by rw [List.getD_eq_getElem?_getD, List.getElem?_eq_getElem (by omega)]; rfl
    have hm : l.getD a 0 ∈ l := List.mem_of_getElem? hg
    have hb := hr _ hm
    generalize l.getD a 0 = x at *
    have hx := tmod_bounds (x := x) hn
    repeat' (first | ((first | refine Y0 rfl fun K9 h9 => ?_ | refine Y1 rfl rfl fun K9 h9 => ?_ | refine Y2 rfl rfl fun K9 h9 => ?_); simp (disch := first | exact dd | fail) [h, hg]; (try simp (disch := first | exact de | fail) only [X7]); ((repeat (refine Yz ?_)); (first | refine h9 _ _ (Ys ?_) | refine h9 _ _ (Yt ?_)); clear h9 K9)) | refine Y6 ?_ | refine Y7 ?_ | (refine Y8 fun K hK => ?_) | refine Y9 ?_ | (apply hK; clear hK K) | ((first | refine Yk (m := 0) (by decide +kernel) [] (by kernel_rfl) (by decide +kernel) ?_); simp only [List.replicate, XL]) | (refine Yb rfl ?_ ?_ <;> intro hcnd <;> (try simp at hcnd) <;> try exact dc) | refine Yc ?_ | (refine Ye ?_; refine Yf ?_) | refine Yg ?_ | (simp only [X0, Nat.reduceBEq]) | clear hK K)
    have hga : l[a]'(by omega) = x := by have := hg; rw [List.getElem?_eq_getElem (by omega)] at this; exact Option.some.inj this
    simp [hga]
    have hw : IntKind.i64.wrap (x.tmod n + n) = x.tmod n + n := wrap_i64 (by omega) (by omega)
    rw [hw]
    exact ⟨rfl, mend_plain⟩
  · exact .int
  · simp

theorem dkA_le {l : List Int} {a : Nat} (h : a ≤ l.length) : dkA l a ≤ l.length := by unfold dkA; split <;> omega
end Go.Proofs.YtcfmanhblonjeaaGreatDoor
