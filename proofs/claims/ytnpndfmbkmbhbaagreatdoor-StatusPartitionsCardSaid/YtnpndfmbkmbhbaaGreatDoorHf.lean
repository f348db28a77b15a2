/-
 ENCODINGS: names of one attribute: what the reference checks and encodes.
 Conditions: none.
-/
import Derived.Test.YtnpndfmbkmbhbaaGreatDoorHe
set_option maxRecDepth 100000
set_option maxHeartbeats 32000000
namespace Go.Der
open Go.VS Go.Stp
def nm1 (v : Bs) : Nm := [[⟨[50, 46, 53, 46, 52, 46, 49, 48], 19, v⟩]]
theorem nmV_nm1 (v : Bs) : nmV (nm1 v) = .sl 1 [.sl 1 [.str [50, 46, 53, 46, 52, 46, 49, 48], .int .i64 19, .str v]] := rfl
end Go.Der
namespace Go.Proofs.YtnpndfmbkmbhbaaGreatDoor
open Go.Proofs.Tryz
open Go.VS Go.Der Go.Stp
set_option linter.all false
attribute [local irreducible] arun arunD arunU AWp aend
theorem alnum_call (c : UInt8) (h : c.toNat = 67 ∨ c.toNat = 65 ∨ (48 ≤ c.toNat ∧ c.toNat ≤ 57)) : PCall prog 201 [.int .u8 c.toNat] (.bool true) := by
 refine pcall_body func201 rfl call201 ?_ ?_
 rotate_left 1
 refine awp_slots (s' := (.int .u8 c.toNat : V) :: zJ 24) rfl ?_; dsimp only [zJ]
 ·rcases h with h | h | ⟨h1, h2⟩
  ·repeat' (first | ((first | refine ZuU ?_ | (refine ZvU ?_ ?_; (focus (simp [h]; done)))); intro K9 h9; simp (disch := first | exact dd | fail) [h]; refine Zm ?_; refine ZfU h9 ?_; clear h9 K9) | refine ZtU ?_ | refine Y8 fun K hK => ?_ | (apply hK; clear hK K) | (refine ZnU ?_ ?_; (focus (simp [h]; done)); refine ZsU ?_) | refine Zx ?_ | clear hK K)
   exact .pure .bool
  ·repeat' (first | ((first | refine ZuU ?_ | (refine ZvU ?_ ?_; (focus (simp [h]; done)))); intro K9 h9; simp (disch := first | exact dd | fail) [h]; refine Zm ?_; refine ZfU h9 ?_; clear h9 K9) | refine ZtU ?_ | refine Y8 fun K hK => ?_ | (apply hK; clear hK K) | (refine ZnU ?_ ?_; (focus (simp [h]; done)); refine ZsU ?_) | refine Zx ?_ | clear hK K)
   exact .pure .bool
  ·have g1 : ¬ (65 : Int) ≤ c.toNat := by omega
   have g2 : ¬ (97 : Int) ≤ c.toNat := by omega
   have g3 : (48 : Int) ≤ c.toNat := by omega
   have g4 : (c.toNat : Int) ≤ 57 := by omega
   repeat' (first | ((first | refine ZuU ?_ | (refine ZvU ?_ ?_; (focus (simp [g1, g2, g3, g4]; done)))); intro K9 h9; simp (disch := first | exact dd | fail) [g1, g2, g3, g4]; refine Zm ?_; refine ZfU h9 ?_; clear h9 K9) | refine ZtU ?_ | refine Y8 fun K hK => ?_ | (apply hK; clear hK K) | (refine ZnU ?_ ?_; (focus (simp [g1, g2, g3, g4]; done)); refine ZsU ?_) | refine Zx ?_ | clear hK K)
   exact .pure .bool
 ·exact .bool
theorem among32_call : PCall prog 202 [.int .u8 32, .str [32, 39, 40, 41, 43, 44, 45, 46, 47, 58, 61, 63]] (.bool true) := by
 refine pcall_body func202 rfl call202 ?_ ?_
 rotate_left 1
 refine awp_slots (s' := (.int .u8 32 : V) :: (.str [32, 39, 40, 41, 43, 44, 45, 46, 47, 58, 61, 63] : V) :: zJ 15) rfl ?_; dsimp only [zJ]
 ·repeat' (first | refine Zq ?_ | refine Zt ?_ | (refine awp_rounds 3 fun KL hL => ?_) | refine Y8 fun K hK => ?_ | (apply hK; clear hK K) | (refine Yb rfl ?_ ?_ <;> intro hcnd <;> (try simp at hcnd) <;> try exact dc) | refine Zx ?_ | clear hK K | (refine hL _ _ _ ?_) | (clear hK K) | (clear hL KL))
  exact .pure .bool
 ·exact .bool
theorem alnum32_call : PCall prog 201 [.int .u8 32] (.bool false) := by
 refine pcall_body func201 rfl call201 ?_ ?_
 rotate_left 1
 refine awp_slots (s' := (.int .u8 32 : V) :: zJ 24) rfl ?_; dsimp only [zJ]
 ·repeat' (first | refine ZrU ?_ | refine ZtU ?_ | refine Y8 fun K hK => ?_ | (apply hK; clear hK K) | refine ZoU ?_ | refine Zx ?_ | clear hK K)
  exact .pure .bool
 ·exact .bool
theorem vtext_call (d : UInt8) (h : 48 ≤ d.toNat ∧ d.toNat ≤ 57) : PCall prog 166 [.int .i64 19, .str [67, 65, 32, d]] (.bool true) := by
 have h1 : PCall prog 201 [.int .u8 67] (.bool true) := alnum_call 67 (.inl rfl)
 have h2 : PCall prog 201 [.int .u8 65] (.bool true) := alnum_call 65 (.inr (.inl rfl))
 have h3 := alnum_call d (.inr (.inr h))
 have h4 := alnum32_call
 have h5 := among32_call
 refine pcall_body func166 rfl call166 ?_ ?_
 rotate_left 1
 refine awp_slots (s' := (.int .i64 19 : V) :: (.str [67, 65, 32, d] : V) :: zJ 50) rfl ?_; dsimp only [zJ]
 ·repeat' (first | ((first | refine ZuU ?_ | (refine ZvU ?_ ?_; (focus (simp; done)))); intro K9 h9; refine Zd ?_; ((first | refine Ap h1 ?_ | refine Ap h2 ?_ | refine Ap h3 ?_ | refine Ap h4 ?_ | refine Ap h5 ?_ | skip) <;> (refine ZfU h9 ?_; clear h9 K9))) | refine ZtU ?_ | (refine awp_rounds 6 fun KL hL => ?_) | refine Y8 fun K hK => ?_ | (apply hK; clear hK K) | (refine Yb rfl ?_ ?_ <;> intro hcnd <;> (try simp at hcnd) <;> try exact dc) | refine ZoU ?_ | refine Zx ?_ | clear hK K | (refine hL _ _ _ ?_) | (clear hK K) | (clear hL KL))
  exact .pure .bool
 ·exact .bool
theorem checkAttr_call (v : Bs) (hv : PCall prog 166 [.int .i64 19, .str v] (.bool true)) (hl : v.length ≤ 64) (hn : v ≠ []) : PCall prog 127 [.sl 1 [.str [50, 46, 53, 46, 52, 46, 49, 48], .int .i64 19, .str v]] (.int .i64 0) := by
 have ho := validO_call
 have hl2 : ¬ 64 < (v.length : Int) := by omega
 refine pcall_body func127 rfl call127 ?_ ?_
 rotate_left 1
 refine awp_slots (s' := (.sl 1 [.str [50, 46, 53, 46, 52, 46, 49, 48], .int .i64 19, .str v] : V) :: zJ 46) rfl ?_; dsimp only [zJ]
 ·repeat' (first | ((first | refine ZuU ?_ | (refine ZvU ?_ ?_; (focus (simp [hn, hl2]; done)))); intro K9 h9; simp (disch := first | exact dd | fail) [hn, hl2]; refine Zm ?_; ((first | refine Ap ho ?_ | refine Ap hv ?_ | skip) <;> (refine ZfU h9 ?_; clear h9 K9))) | refine ZtU ?_ | (refine awp_rounds 3 fun KL hL => ?_) | refine Y8 fun K hK => ?_ | (apply hK; clear hK K) | (refine Zk 0 [] ?_; refine Zl ?_) | (refine Yb rfl ?_ ?_ <;> intro hcnd <;> (try simp at hcnd) <;> try exact dc) | (refine ZnU ?_ ?_; (focus (simp [hn, hl2]; done)); refine ZsU ?_) | refine Zx ?_ | clear hK K | (refine hL _ _ _ ?_) | (clear hK K) | (clear hL KL))
  exact .pure .int
 ·exact .int
theorem checkName_call (v : Bs) (hv : PCall prog 166 [.int .i64 19, .str v] (.bool true)) (hl : v.length ≤ 64) (hn : v ≠ []) : PCall prog 78 [.agg [nmV (nm1 v)]] (.int .i64 0) := by
 have hc := checkAttr_call v hv hl hn
 rw [nmV_nm1]
 generalize [V.str [50, 46, 53, 46, 52, 46, 49, 48], V.int .i64 19, V.str v] = A at *
 refine pcall_body func78 rfl call78 ?_ ?_
 rotate_left 1
 refine awp_slots (s' := (.agg [.sl 1 [.sl 1 A]] : V) :: zJ 28) rfl ?_; dsimp only [zJ]
 ·repeat' (first | (refine Zu ?_; intro K9 h9; refine Zd ?_; ((first | refine Ap hc ?_ | skip) <;> (refine Zf h9 ?_; clear h9 K9))) | refine Zt ?_ | (refine awp_rounds 3 fun KL hL => ?_) | refine Y8 fun K hK => ?_ | (apply hK; clear hK K) | (refine Yb rfl ?_ ?_ <;> intro hcnd <;> (try simp at hcnd) <;> try exact dc) | refine Zx ?_ | clear hK K | (refine hL _ _ _ ?_) | (clear hK K) | (clear hL KL))
  exact .pure .int
 ·exact .int
theorem oidO_call : PCall prog 96 [.str [50, 46, 53, 46, 52, 46, 49, 48]] (.str (wr 6 cO)) := by
 have he := encOidO_call
 have hw := wrap7_call 6 [cO] ⟨by omega, by omega, by omega⟩ (by simp) (by simp [cO])
 rw [show ([cO] : List Bs).flatten = cO by simp] at hw
 unfold cO at *
 refine pcall_body func96 rfl call96 ?_ ?_
 rotate_left 1
 refine awp_slots (s' := (.str [50, 46, 53, 46, 52, 46, 49, 48] : V) :: zJ 12) rfl ?_; dsimp only [zJ]
 ·repeat' (first | (refine Zu ?_; intro K9 h9; refine Zd ?_; ((first | refine Ap he ?_ | refine acall_view hw ⟨.pure .int, view_row rfl (by simp) (by simp), trivial⟩ .str ?_ | skip) <;> (refine Zf h9 ?_; clear h9 K9))) | refine Zt ?_ | refine Y8 fun K hK => ?_ | (apply hK; clear hK K) | refine Zx ?_ | clear hK K)
  exact .pure .str
 ·exact .str
end Go.Proofs.YtnpndfmbkmbhbaaGreatDoor
namespace Go.Proofs.YtnpndfmbkmbhbaaGreatDoor
open Go.Proofs.Tryz
open Go.VS Go.Der
set_option linter.all false
attribute [local irreducible] arun arunD arunU AWp aend
theorem d1_call (k : Nat) (h : k < 10) (c : UInt8) (e : UInt8.ofNat (48 + k) = c) : PCall prog 28 [.int .i64 k] (.str [c]) := by
 have := dec_call k h
 rw [e] at this
 exact this
theorem decOidO_call : PCall prog 151 [.str [85, 4, 10]] (.tup [.str [50, 46, 53, 46, 52, 46, 49, 48], .int .i64 0]) := by
 have v := validO_call
 have h2 : PCall prog 28 [.int .i64 2] (.str [50]) := d1_call 2 (by omega) 50 rfl
 have h5 : PCall prog 28 [.int .i64 5] (.str [53]) := d1_call 5 (by omega) 53 rfl
 have h4 : PCall prog 28 [.int .i64 4] (.str [52]) := d1_call 4 (by omega) 52 rfl
 have h10 : PCall prog 28 [.int .i64 10] (.str [49, 48]) := dec2_call 10 (by omega) (by omega)
 refine pcall_body func151 rfl call151 ?_ ?_
 rotate_left 1
 refine awp_slots (s' := (.str [85, 4, 10] : V) :: zJ 73) rfl ?_; dsimp only [zJ]
 ·repeat' (first | ((first | refine ZuU ?_ | (refine ZvU ?_ ?_; (focus (simp; done)))); intro K9 h9; refine Zd ?_; ((first | refine Ap h2 ?_ | refine Ap h5 ?_ | refine Ap h4 ?_ | refine Ap h10 ?_ | refine Ap v ?_ | skip) <;> (refine ZfU h9 ?_; clear h9 K9))) | refine ZtU ?_ | (refine awp_rounds 12 fun KL hL => ?_) | refine Y8 fun K hK => ?_ | (apply hK; clear hK K) | (refine Yb rfl ?_ ?_ <;> intro hcnd <;> (try simp at hcnd) <;> try exact dc) | refine ZoU ?_ | refine Zx ?_ | clear hK K | (refine hL _ _ _ ?_) | (clear hK K) | (clear hL KL))
  exact .pure (by simp)
 ·exact .tup (by simp)
theorem decOid29_call (j : Nat) (hj : j < 10) : PCall prog 151 [.str [85, 29, 20 + UInt8.ofNat j]] (.tup [.str [50, 46, 53, 46, 50, 57, 46, 50, 48 + UInt8.ofNat j], .int .i64 0]) := by
 have v := valid29_call j hj
 have hb : (20 + UInt8.ofNat j).toNat = 20 + j := by simp [UInt8.toNat_add, UInt8.toNat_ofNat']; omega
 have h2 : PCall prog 28 [.int .i64 2] (.str [50]) := d1_call 2 (by omega) 50 rfl
 have h5 : PCall prog 28 [.int .i64 5] (.str [53]) := d1_call 5 (by omega) 53 rfl
 have h29 : PCall prog 28 [.int .i64 29] (.str [50, 57]) := dec2_call 29 (by omega) (by omega)
 have hx := dec2_call (20 + j) (by omega) (by omega)
 rw [show (20 + j) / 10 = 2 by omega, show (20 + j) % 10 = j by omega, show (48 : UInt8) + UInt8.ofNat 2 = 50 from rfl, show ((20 + j : Nat) : Int) = 20 + (j : Int) by omega] at hx
 generalize 20 + UInt8.ofNat j = b at *
 generalize 48 + UInt8.ofNat j = d at *
 have g1 : ¬ b.toNat = 128 := by omega
 have g2 : (b.toNat : Int) % 128 = 20 + j := by omega
 have g3 : ¬ (128 : Int) ≤ b.toNat := by omega
 have g4 : ¬ 2147483727 < (20 + (j : Int)) := by omega
 refine pcall_body func151 rfl call151 ?_ ?_
 rotate_left 1
 refine awp_slots (s' := (.str [85, 29, b] : V) :: zJ 73) rfl ?_; dsimp only [zJ]
 ·repeat' (first | ((first | refine ZuU ?_ | (refine ZvU ?_ ?_; (focus (simp [g1, g2, g3, g4]; done)))); intro K9 h9; simp (disch := first | exact dd | fail) [g1, g2, g3, g4]; refine Zm ?_; ((first | refine Ap h2 ?_ | refine Ap h5 ?_ | refine Ap h29 ?_ | refine Ap hx ?_ | refine Ap v ?_ | skip) <;> (refine ZfU h9 ?_; clear h9 K9))) | refine ZtU ?_ | (refine awp_rounds 12 fun KL hL => ?_) | refine Y8 fun K hK => ?_ | (apply hK; clear hK K) | (refine Yb rfl ?_ ?_ <;> intro hcnd <;> (try simp at hcnd) <;> try exact dc) | (refine ZnU ?_ ?_; (focus (simp [g1, g2, g3, g4]; done)); refine ZsU ?_) | refine Zx ?_ | clear hK K | (refine hL _ _ _ ?_) | (clear hK K) | (clear hL KL))
  exact .pure (by simp)
 ·exact .tup (by simp)
theorem decOidA_call : PCall prog 151 [.str [43, 6, 1, 4, 1, 131, 204, 8, 1, 1]] (.tup [.str [49, 46, 51, 46, 54, 46, 49, 46, 52, 46, 49, 46, 53, 56, 56, 56, 56, 46, 49, 46, 49], .int .i64 0]) := by
 have v := validA_call
 have h1 : PCall prog 28 [.int .i64 1] (.str [49]) := d1_call 1 (by omega) 49 rfl
 have h3 : PCall prog 28 [.int .i64 3] (.str [51]) := d1_call 3 (by omega) 51 rfl
 have h6 : PCall prog 28 [.int .i64 6] (.str [54]) := d1_call 6 (by omega) 54 rfl
 have h4 : PCall prog 28 [.int .i64 4] (.str [52]) := d1_call 4 (by omega) 52 rfl
 have e2 : PCall prog 28 [.int .i64 58] (.str [53, 56]) := dec2_call 58 (by omega) (by omega)
 have e3 : PCall prog 28 [.int .i64 588] (.str [53, 56, 56]) := decs_call 588 (by omega) (by omega) [53, 56] (by simp) e2
 have e4 : PCall prog 28 [.int .i64 5888] (.str [53, 56, 56, 56]) := decs_call 5888 (by omega) (by omega) [53, 56, 56] (by simp) e3
 have e5 : PCall prog 28 [.int .i64 58888] (.str [53, 56, 56, 56, 56]) := decs_call 58888 (by omega) (by omega) [53, 56, 56, 56] (by simp) e4
 refine pcall_body func151 rfl call151 ?_ ?_
 rotate_left 1
 refine awp_slots (s' := (.str [43, 6, 1, 4, 1, 131, 204, 8, 1, 1] : V) :: zJ 73) rfl ?_; dsimp only [zJ]
 ·repeat' (first | ((first | refine ZuU ?_ | (refine ZvU ?_ ?_; (focus (simp; done)))); intro K9 h9; refine Zd ?_; ((first | refine Ap h1 ?_ | refine Ap h3 ?_ | refine Ap h6 ?_ | refine Ap h4 ?_ | refine Ap e5 ?_ | refine Ap v ?_ | skip) <;> (refine ZfU h9 ?_; clear h9 K9))) | refine ZtU ?_ | (refine awp_rounds 12 fun KL hL => ?_) | refine Y8 fun K hK => ?_ | (apply hK; clear hK K) | (refine Yb rfl ?_ ?_ <;> intro hcnd <;> (try simp at hcnd) <;> try exact dc) | refine ZoU ?_ | refine Zx ?_ | clear hK K | (refine hL _ _ _ ?_) | (clear hK K) | (clear hL KL))
  exact .pure (by simp)
 ·exact .tup (by simp)
end Go.Proofs.YtnpndfmbkmbhbaaGreatDoor
