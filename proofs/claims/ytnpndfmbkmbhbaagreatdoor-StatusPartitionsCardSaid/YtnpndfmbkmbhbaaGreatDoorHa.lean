/-
 ENCODINGS: elements, integers, identifiers, times, as lists of bytes.
 Conditions: none.
-/
import Derived.Test.YtnpndfmbkmbhbaaGreatDoorGl
import Derived.Test.YtnpndfmbkmbhbaaGreatDoorGm
set_option maxRecDepth 100000
set_option maxHeartbeats 32000000
namespace Go.Der
open Go.VS
abbrev Bs := List UInt8
structure El where
 tag : Int
 con : Bs
 raw : Bs
 deriving DecidableEq
def El.z : El := ⟨0, [], []⟩
def El.c (e : El) : List V := [.int .i64 e.tag, .str e.con, .str e.raw]
def elsV (l : List El) : V := .sl l.length (l.flatMap El.c)

def headB (tag : Int) (n : Nat) : Bs :=
 if 65536 ≤ n then [UInt8.ofNat tag.toNat, 131, UInt8.ofNat (n / 65536), UInt8.ofNat (n / 256), UInt8.ofNat n]
 else if 256 ≤ n then [UInt8.ofNat tag.toNat, 130, UInt8.ofNat (n / 256), UInt8.ofNat n]
 else if 128 ≤ n then [UInt8.ofNat tag.toNat, 129, UInt8.ofNat n]
 else [UInt8.ofNat tag.toNat, UInt8.ofNat n]
end Go.Der
namespace Go.Der
open Go.VS
def wr (tag : Int) (c : Bs) : Bs := headB tag c.length ++ c
def TagOk (tag : Int) : Prop := 0 ≤ tag ∧ tag ≤ 255 ∧ tag % 32 ≠ 31
def wel (tag : Int) (c : Bs) : El := ⟨tag, c, wr tag c⟩

theorem u8n (n : Nat) (h : n < 256) : (UInt8.ofNat n).toNat = n := by simp [UInt8.toNat_ofNat']; omega
theorem tag_nat {tag : Int} (ht : TagOk tag) : (UInt8.ofNat tag.toNat).toNat = tag.toNat := u8n _ (by obtain ⟨h1, h2, _⟩ := ht; omega)
theorem tag_31 {tag : Int} (ht : TagOk tag) : ¬ (tag.toNat % 32 = 31) := by obtain ⟨h1, h2, h3⟩ := ht; omega
theorem tag_int {tag : Int} (ht : TagOk tag) : (tag.toNat : Int) = tag := by obtain ⟨h1, _, _⟩ := ht; omega

theorem wr_len {tag : Int} {c : Bs} : 2 ≤ (wr tag c).length ∧ (wr tag c).length ≤ c.length + 5 ∧ c.length ≤ (wr tag c).length := by
 unfold wr headB
 split
 ·simp; omega
 split
 ·simp; omega
 split
 ·simp; omega
 ·simp; omega
def wrs : List (Int × Bs) → Bs
 | [] => []
 | p :: l => wr p.1 p.2 ++ wrs l
def wels (l : List (Int × Bs)) : List El := l.map fun p => wel p.1 p.2
end Go.Der
namespace Go.Der
open Go.VS
def sAlg : Bs := [49, 46, 51, 46, 54, 46, 49, 46, 52, 46, 49, 46, 53, 56, 56, 56, 56, 46, 49, 46, 49]
def cAlg : Bs := [43, 6, 1, 4, 1, 131, 204, 8, 1, 1]
def cO : Bs := [85, 4, 10]
def algC : Bs := wr 6 cAlg
def algB : Bs := wr 48 algC
def num (tag v : Int) : Bs := wr tag [UInt8.ofNat v.toNat]
def timeC (t : Int) : Bs := [53, 48, 48, 49, 48, 49, 48, 48, 48, 48, 48, 48 + UInt8.ofNat t.toNat, 90]
def timeB (t : Int) : Bs := wr 23 (timeC t)
def nmC (v : Bs) : Bs := wr 49 (wr 48 (wr 6 cO ++ wr 19 v))
def nmB (v : Bs) : Bs := wr 48 (nmC v)
def exC (c : Bs) (crit : Bool) (v : Bs) : Bs := wr 6 c ++ (if crit = true then wr 1 [255] else []) ++ wr 4 v
def exB (c : Bs) (crit : Bool) (v : Bs) : Bs := wr 48 (exC c crit v)
end Go.Der
namespace Go.Proofs.YtnpndfmbkmbhbaaGreatDoor
open Go.Proofs.Tryz
open Go.VS Go.Der
set_option linter.all false
attribute [local irreducible] arun arunD arunU AWp aend
theorem wrap_call (tag : Int) (l : List Bs) (ht : TagOk tag) (hl : l.length ≤ 1000000) (hc : l.flatten.length ≤ 131072) : PCall prog 87 [.int .i64 tag, .sl l.length (l.map V.str)] (.tup [.str (wr tag l.flatten), .int .i64 0]) := by
 obtain ⟨t1, t2, t3⟩ := ht
 have g1 : ¬ tag < 0 := by omega
 have g2 : ¬ 255 < tag := by omega
 have g3 : ¬ tag % 32 = 31 := t3
 have e0 : tag % 256 = tag := by omega
 refine pcall_body func87 rfl call87 ?_ ?_
 rotate_left 1
 refine awp_slots (s' := (.int .i64 tag : V) :: (.sl l.length (l.map V.str) : V) :: zJ 76) rfl ?_; dsimp only [zJ]
 ·repeat' (first | ((first | refine Zu ?_ | (refine Zv ?_ ?_; (focus (simp [g1, g2, g3]; done)))); intro K9 h9; simp (disch := first | exact dd | fail) [g1, g2, g3]; refine Zm ?_; refine Zf h9 ?_; clear h9 K9) | refine Zt ?_ | refine Y8 fun K hK => ?_ | (apply hK; clear hK K) | (refine Yb rfl ?_ ?_ <;> intro hcnd <;> (try simp at hcnd) <;> try exact dc) | (refine Zn ?_ ?_; (focus (simp [g1, g2, g3]; done)); refine Zs ?_) | refine Zx ?_ | clear hK K)
  refine awp_countU (fun i => (none :: some V.junk :: zN 2 (zS 2 (some (V.str (catN l i)) :: none :: zS 14 (zN 2 (some (V.int .i64 i) :: zS 53 [])))))) (fun i => []) l.length ?_ fun i hi KL hL => ?_
  ·dsimp only [ups, zN, zS]
   exact Le.drop (by simp [catN])
  dsimp only [ups, zN, zS]
  rcases Nat.lt_or_ge i l.length with hi | hi
  ·have hle : (catN l i).length + (l[i]).length ≤ l.flatten.length := flat_le l i hi
   repeat' (first | refine Zr ?_ | refine Zt ?_ | refine Y8 fun K hK => ?_ | (apply hK; clear hK K) | (refine Yb rfl ?_ ?_ <;> intro hcnd <;> (try simp at hcnd) <;> try exact dc) | refine Zo ?_ | refine Zx ?_ | clear hK K)
   refine hL _ _ hi ?_
   exact Le.drop (by dsimp only [ups, zN, zS]; simp [catN_succ l i hi])
  obtain rfl : i = l.length := by omega
  have hcat : catN l l.length = l.flatten := by simp [catN]
  rw [hcat]
  generalize l.flatten = c at *
  obtain ⟨n, hn⟩ : ∃ n, c.length = n := ⟨_, rfl⟩
  rw [hn] at hc
  have f0 : (n : Int) % 256 = ((n % 256 : Nat) : Int) := by omega
  have f1 : (n : Int) / 256 % 256 = ((n / 256 % 256 : Nat) : Int) := by omega
  have f2 : (n : Int) / 65536 % 256 = ((n / 65536 % 256 : Nat) : Int) := by omega
  have k0 : ¬ 131072 < (n : Int) := by omega
  have w0 : ∀ m : Nat, UInt8.ofNat (IntKind.u8.wrap (m : Int)).toNat = UInt8.ofNat m := fun m => by
   rw [show IntKind.u8.wrap (m : Int) = (m : Int) % 256 by simp [IntKind.wrap, IntKind.signed, IntKind.bits], show (m : Int) % 256 = ((m % 256 : Nat) : Int) by omega, Int.toNat_natCast]
   apply UInt8.toNat_inj.1
   simp [UInt8.toNat_ofNat']
  by_cases k1 : 65536 ≤ n
  ·have k1' : (65536 : Int) ≤ n := by omega
   have hw : UInt8.ofNat tag.toNat :: 131 :: UInt8.ofNat ((n : Int) / 65536).toNat :: UInt8.ofNat (IntKind.u8.wrap ((n : Int) / 256)).toNat :: UInt8.ofNat (IntKind.u8.wrap (n : Int)).toNat :: c = wr tag c := by
    unfold wr headB
    rw [hn, if_pos k1, w0, show (n : Int) / 256 = ((n / 256 : Nat) : Int) by omega, w0, show (n : Int) / 65536 = ((n / 65536 : Nat) : Int) by omega, Int.toNat_natCast]
    rfl
   repeat' (first | ((first | refine Zu ?_ | (refine Zv ?_ ?_; (focus (simp [hn, e0, f0, f1, f2, k0, k1']; done)))); intro K9 h9; simp (disch := first | exact dd | fail) [hn, e0, f0, f1, f2, k0, k1']; refine Zm ?_; refine Zf h9 ?_; clear h9 K9) | refine Zt ?_ | refine Y8 fun K hK => ?_ | (apply hK; clear hK K) | (refine Yb rfl ?_ ?_ <;> intro hcnd <;> (try simp at hcnd) <;> try exact dc) | (refine Zn ?_ ?_; (focus (simp [hn, e0, f0, f1, f2, k0, k1']; done)); refine Zs ?_) | refine Zx ?_ | clear hK K)
   rw [← hw]
   exact .pure (by simp)
  by_cases k2 : 256 ≤ n
  ·have k1' : ¬ (65536 : Int) ≤ n := by omega
   have k2' : (256 : Int) ≤ n := by omega
   have hw : UInt8.ofNat tag.toNat :: 130 :: UInt8.ofNat ((n : Int) / 256).toNat :: UInt8.ofNat (IntKind.u8.wrap (n : Int)).toNat :: c = wr tag c := by
    unfold wr headB
    rw [hn, if_neg k1, if_pos k2, w0, show (n : Int) / 256 = ((n / 256 : Nat) : Int) by omega, Int.toNat_natCast]
    rfl
   repeat' (first | ((first | refine Zu ?_ | (refine Zv ?_ ?_; (focus (simp [hn, e0, f0, f1, f2, k0, k1', k2']; done)))); intro K9 h9; simp (disch := first | exact dd | fail) [hn, e0, f0, f1, f2, k0, k1', k2']; refine Zm ?_; refine Zf h9 ?_; clear h9 K9) | refine Zt ?_ | refine Y8 fun K hK => ?_ | (apply hK; clear hK K) | (refine Yb rfl ?_ ?_ <;> intro hcnd <;> (try simp at hcnd) <;> try exact dc) | (refine Zn ?_ ?_; (focus (simp [hn, e0, f0, f1, f2, k0, k1', k2']; done)); refine Zs ?_) | refine Zx ?_ | clear hK K)
   rw [← hw]
   exact .pure (by simp)
  by_cases k3 : 128 ≤ n
  ·have k1' : ¬ (65536 : Int) ≤ n := by omega
   have k2' : ¬ (256 : Int) ≤ n := by omega
   have k3' : (128 : Int) ≤ n := by omega
   have hw : UInt8.ofNat tag.toNat :: 129 :: UInt8.ofNat n :: c = wr tag c := by
    unfold wr headB
    rw [hn, if_neg k1, if_neg k2, if_pos k3]
    rfl
   repeat' (first | ((first | refine Zu ?_ | (refine Zv ?_ ?_; (focus (simp [hn, e0, f0, k0, k1', k2', k3']; done)))); intro K9 h9; simp (disch := first | exact dd | fail) [hn, e0, f0, k0, k1', k2', k3']; refine Zm ?_; refine Zf h9 ?_; clear h9 K9) | refine Zt ?_ | refine Y8 fun K hK => ?_ | (apply hK; clear hK K) | (refine Yb rfl ?_ ?_ <;> intro hcnd <;> (try simp at hcnd) <;> try exact dc) | (refine Zn ?_ ?_; (focus (simp [hn, e0, f0, k0, k1', k2', k3']; done)); refine Zs ?_) | refine Zx ?_ | clear hK K)
   rw [← hw]
   exact .pure (by simp)
  ·have k1' : ¬ (65536 : Int) ≤ n := by omega
   have k2' : ¬ (256 : Int) ≤ n := by omega
   have k3' : ¬ (128 : Int) ≤ n := by omega
   have hw : UInt8.ofNat tag.toNat :: UInt8.ofNat n :: c = wr tag c := by
    unfold wr headB
    rw [hn, if_neg k1, if_neg k2, if_neg k3]
    rfl
   repeat' (first | ((first | refine Zu ?_ | (refine Zv ?_ ?_; (focus (simp [hn, e0, f0, k0, k1', k2', k3']; done)))); intro K9 h9; simp (disch := first | exact dd | fail) [hn, e0, f0, k0, k1', k2', k3']; refine Zm ?_; refine Zf h9 ?_; clear h9 K9) | refine Zt ?_ | refine Y8 fun K hK => ?_ | (apply hK; clear hK K) | (refine Yb rfl ?_ ?_ <;> intro hcnd <;> (try simp at hcnd) <;> try exact dc) | (refine Zn ?_ ?_; (focus (simp [hn, e0, f0, k0, k1', k2', k3']; done)); refine Zs ?_) | refine Zx ?_ | clear hK K)
   rw [← hw]
   exact .pure (by simp)
 ·exact .tup (by simp [Pures])

theorem wrap7_call (tag : Int) (l : List Bs) (ht : TagOk tag) (hl : l.length ≤ 1000000) (hc : l.flatten.length ≤ 131072) : PCall prog 82 [.int .i64 tag, .sl l.length (l.map V.str)] (.str (wr tag l.flatten)) := by
 have hw := wrap_call tag l ht hl hc
 refine pcall_body func82 rfl call82 ?_ ?_
 rotate_left 1
 refine awp_slots (s' := (.int .i64 tag : V) :: (.sl l.length (l.map V.str) : V) :: zJ 12) rfl ?_; dsimp only [zJ]
 ·repeat' (first | (refine Zu ?_; intro K9 h9; refine Zd ?_; ((first | refine Ap hw ?_ | skip) <;> (refine Zf h9 ?_; clear h9 K9))) | refine Zt ?_ | refine Y8 fun K hK => ?_ | (apply hK; clear hK K) | refine Zx ?_ | clear hK K)
  exact .pure .str
 ·exact .str
theorem fit_call (tag : Int) (l : List Bs) (ht : TagOk tag) (hl : l.length ≤ 1000000) (hc : l.flatten.length ≤ 131072) : PCall prog 47 [.int .i64 tag, .sl l.length (l.map V.str)] (.tup [.str (wr tag l.flatten), .int .i64 0]) := by
 have hw := wrap_call tag l ht hl hc
 refine pcall_body func47 rfl call47 ?_ ?_
 rotate_left 1
 refine awp_slots (s' := (.int .i64 tag : V) :: (.sl l.length (l.map V.str) : V) :: zJ 15) rfl ?_; dsimp only [zJ]
 ·repeat' (first | (refine Zu ?_; intro K9 h9; refine Zd ?_; ((first | refine Ap hw ?_ | skip) <;> (refine Zf h9 ?_; clear h9 K9))) | refine Zt ?_ | refine Y8 fun K hK => ?_ | (apply hK; clear hK K) | (refine Yb rfl ?_ ?_ <;> intro hcnd <;> (try simp at hcnd) <;> try exact dc) | refine Zx ?_ | clear hK K)
  exact .pure (by simp)
 ·exact .tup (by simp)
end Go.Proofs.YtnpndfmbkmbhbaaGreatDoor
