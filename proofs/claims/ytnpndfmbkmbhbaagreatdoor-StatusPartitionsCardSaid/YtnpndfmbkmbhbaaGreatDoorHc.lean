/-
 ENCODINGS: the reference's decoder of fields.
 Conditions: none.
-/
import Derived.Test.YtnpndfmbkmbhbaaGreatDoorHb
set_option maxRecDepth 100000
set_option maxHeartbeats 32000000
namespace Go.Der
open Go.VS
theorem El.c_len (e : El) : e.c.length = 3 := rfl
theorem els_at (l : List El) (i : Nat) (h : i < l.length) : ((l.flatMap El.c).drop (i * 3)).take 3 = l[i].c := Go.Stp.flat_at El.c_len l i h
theorem els_len (l : List El) : (l.flatMap El.c).length = l.length * 3 := Go.Stp.flat_len El.c_len l
@[simp] theorem El.c_pures (e : El) : Pures e.c := by simp [El.c]
@[simp] theorem elsV_pure (l : List El) : (elsV l).Pure := .sl
@[simp] theorem elsV_one (l : List El) : (elsV l).one = true := rfl
theorem acall_mutf {P : Program} {f : FuncId} {rest row row' : List V} {r : V} {rows : List Row} {k : KV} {i : Nat} (hc : MCall P f (.ref 0 0 :: rest) row row' r) (hrow : rows[i]? = some (.live row)) (hp : Pures row) (hp' : Pures row') (hr : r.Pure)
  (h : ∀ x ∈ rest, x.Pure) (hk : k r (rows.set i (.live row'))) : acall P false (.fn (.func f) []) (.ref i 0 :: rest) rows k := acall_mut i hc hrow hp hp' hr (by rw [List.append_nil]; exact ⟨by simp, rens_self h⟩) hk
def fldR (l : List El) (i : Nat) : List V := [elsV l, .int .i64 i]
@[simp] theorem fldR_pures (l : List El) (i : Nat) : Pures (fldR l i) := by simp [fldR]
end Go.Der
namespace Go.Proofs.YtnpndfmbkmbhbaaGreatDoor
open Go.Proofs.Tryz
open Go.VS Go.Der
set_option linter.all false
attribute [local irreducible] arun arunD arunU AWp aend
theorem need_call (l : List El) (i : Nat) (t : Int) (hi : i < l.length) (ht : t < 0 ∨ l[i].tag = t) (hl : l.length ≤ 1000000) : MCall prog 57 [.ref 0 0, .int .i64 t] (fldR l i) (fldR l (i + 1)) (.tup [.agg l[i].c, .int .i64 0]) := by
 have hat := els_at l i hi
 have hln := els_len l
 unfold fldR
 rw [show elsV l = .sl l.length (l.flatMap El.c) from rfl]
 obtain ⟨x, hx⟩ : ∃ x, l[i] = x := ⟨_, rfl⟩
 rw [hx] at ht hat ⊢
 clear hx
 generalize l.flatMap El.c = C at *
 generalize l.length = n at *
 obtain ⟨xt, xc, xr⟩ := x
 unfold El.c at *
 dsimp only at *
 refine mcall_body func57 rfl call57 ?_ ?_ ?_
 rotate_left 2
 refine awp_slots (s' := (.ref 0 0 : V) :: (.int .i64 t : V) :: zJ 43) rfl ?_; dsimp only [zJ]
 by_cases g : t < 0
 ·have g2 : ¬ 0 ≤ t := by omega
  repeat' (first | ((first | refine Zu ?_ | (refine Zv ?_ ?_; (focus (simp [hat, g2]; done)))); intro K9 h9; simp (disch := first | exact dd | fail) [hat, g2]; refine Zm ?_; refine Zf h9 ?_; clear h9 K9) | refine Zt ?_ | refine Y8 fun K hK => ?_ | (apply hK; clear hK K) | ((first | refine Zk 0 [] ?_ | refine Zk 1 [] ?_); refine Zl ?_) | (refine Yb rfl ?_ ?_ <;> intro hcnd <;> (try simp at hcnd) <;> try exact dc) | (refine Zn ?_ ?_; (focus (simp [hat, g2]; done)); refine Zs ?_) | refine Zx ?_ | clear hK K)
  simp
  exact mend_plain
 ·have g2 : 0 ≤ t := by omega
  have g3 : xt = t := by rcases ht with h | h; exact absurd h g; exact h
  subst g3
  repeat' (first | ((first | refine Zu ?_ | (refine Zv ?_ ?_; (focus (simp [hat, g2]; done)))); intro K9 h9; simp (disch := first | exact dd | fail) [hat, g2]; refine Zm ?_; refine Zf h9 ?_; clear h9 K9) | refine Zt ?_ | refine Y8 fun K hK => ?_ | (apply hK; clear hK K) | ((first | refine Zk 0 [] ?_ | refine Zk 1 [] ?_); refine Zl ?_) | (refine Yb rfl ?_ ?_ <;> intro hcnd <;> (try simp at hcnd) <;> try exact dc) | (refine Zn ?_ ?_; (focus (simp [hat, g2]; done)); refine Zs ?_) | refine Zx ?_ | clear hK K)
  simp
  exact mend_plain
 ·exact .tup (by simp)
 ·simp
theorem may_call (l : List El) (i : Nat) (t : Int) (hi : i < l.length) (ht : l[i].tag = t) (hl : l.length ≤ 1000000) : MCall prog 107 [.ref 0 0, .int .i64 t] (fldR l i) (fldR l (i + 1)) (.tup [.agg l[i].c, .bool true]) := by
 have hat := els_at l i hi
 have hln := els_len l
 unfold fldR
 rw [show elsV l = .sl l.length (l.flatMap El.c) from rfl]
 obtain ⟨x, hx⟩ : ∃ x, l[i] = x := ⟨_, rfl⟩
 rw [hx] at ht hat ⊢
 clear hx
 generalize l.flatMap El.c = C at *
 generalize l.length = n at *
 obtain ⟨xt, xc, xr⟩ := x
 unfold El.c at *
 dsimp only at *
 subst ht
 have h0 : C[i * 3]'(by omega) = .int .i64 xt := by
  have h3 : (List.drop (i * 3) C)[0]? = some (.int .i64 xt) := by
   have := congrArg (fun q : List V => q[0]?) hat
   simpa using this
  rw [List.getElem?_drop] at h3
  exact (List.getElem?_eq_some_iff.1 h3).2
 have hni : ¬ n ≤ i := by omega
 refine mcall_body func107 rfl call107 ?_ ?_ ?_
 rotate_left 2
 refine awp_slots (s' := (.ref 0 0 : V) :: (.int .i64 xt : V) :: zJ 48) rfl ?_; dsimp only [zJ]
 ·repeat' (first | ((first | refine Zu ?_ | (refine Zv ?_ ?_; (focus (simp [hat, h0, hni]; done)))); intro K9 h9; simp (disch := first | exact dd | fail) [hat, h0, hni]; refine Zm ?_; refine Zf h9 ?_; clear h9 K9) | refine Zt ?_ | refine Y8 fun K hK => ?_ | (apply hK; clear hK K) | (refine Zk 0 [] ?_; refine Zl ?_) | (refine Yb rfl ?_ ?_ <;> intro hcnd <;> (try simp at hcnd) <;> try exact dc) | (refine Zn ?_ ?_; (focus (simp [hat, h0, hni]; done)); refine Zs ?_) | refine Zx ?_ | clear hK K)
  simp
  exact mend_plain
 ·exact .tup (by simp)
 ·simp
theorem mayn_call (l : List El) (i : Nat) (t : Int) (hi : i < l.length) (ht : ¬ l[i].tag = t) (hl : l.length ≤ 1000000) : MCall prog 107 [.ref 0 0, .int .i64 t] (fldR l i) (fldR l i) (.tup [.agg [.int .i64 0, .str [], .str []], .bool false]) := by
 have hat := els_at l i hi
 have hln := els_len l
 unfold fldR
 rw [show elsV l = .sl l.length (l.flatMap El.c) from rfl]
 obtain ⟨x, hx⟩ : ∃ x, l[i] = x := ⟨_, rfl⟩
 rw [hx] at ht hat
 clear hx
 generalize l.flatMap El.c = C at *
 generalize l.length = n at *
 obtain ⟨xt, xc, xr⟩ := x
 unfold El.c at *
 dsimp only at *
 have h0 : C[i * 3]'(by omega) = .int .i64 xt := by
  have h3 : (List.drop (i * 3) C)[0]? = some (.int .i64 xt) := by
   have := congrArg (fun q : List V => q[0]?) hat
   simpa using this
  rw [List.getElem?_drop] at h3
  exact (List.getElem?_eq_some_iff.1 h3).2
 have hni : ¬ n ≤ i := by omega
 refine mcall_body func107 rfl call107 ?_ ?_ ?_
 rotate_left 2
 refine awp_slots (s' := (.ref 0 0 : V) :: (.int .i64 t : V) :: zJ 48) rfl ?_; dsimp only [zJ]
 ·repeat' (first | ((first | refine Zu ?_ | (refine Zv ?_ ?_; (focus (simp [hat, h0, ht, hni]; done)))); intro K9 h9; simp (disch := first | exact dd | fail) [hat, h0, ht, hni]; refine Zm ?_; refine Zf h9 ?_; clear h9 K9) | refine Zt ?_ | refine Y8 fun K hK => ?_ | (apply hK; clear hK K) | (refine Zk 0 [] ?_; refine Zl ?_) | (refine Yb rfl ?_ ?_ <;> intro hcnd <;> (try simp at hcnd) <;> try exact dc) | (refine Zn ?_ ?_; (focus (simp [hat, h0, ht, hni]; done)); refine Zs ?_) | refine Zx ?_ | clear hK K)
  simp
  exact mend_plain
 ·exact .tup (by simp)
 ·simp
theorem maye_call (l : List El) (t : Int) (hl : l.length ≤ 1000000) : MCall prog 107 [.ref 0 0, .int .i64 t] (fldR l l.length) (fldR l l.length) (.tup [.agg [.int .i64 0, .str [], .str []], .bool false]) := by
 unfold fldR
 rw [show elsV l = .sl l.length (l.flatMap El.c) from rfl]
 generalize l.flatMap El.c = C at *
 generalize l.length = n at *
 refine mcall_body func107 rfl call107 ?_ ?_ ?_
 rotate_left 2
 refine awp_slots (s' := (.ref 0 0 : V) :: (.int .i64 t : V) :: zJ 48) rfl ?_; dsimp only [zJ]
 ·repeat' (first | refine Zr ?_ | refine Zt ?_ | refine Y8 fun K hK => ?_ | (apply hK; clear hK K) | (refine Zk 0 [] ?_; refine Zl ?_) | (refine Yb rfl ?_ ?_ <;> intro hcnd <;> (try simp at hcnd) <;> try exact dc) | refine Zo ?_ | refine Zx ?_ | clear hK K)
  simp
  exact mend_plain
 ·exact .tup (by simp)
 ·simp
theorem endf_call (l : List El) (hl : l.length ≤ 1000000) : MCall prog 61 [.ref 0 0] (fldR l l.length) (fldR l l.length) (.int .i64 0) := by
 unfold fldR
 rw [show elsV l = .sl l.length (l.flatMap El.c) from rfl]
 generalize l.flatMap El.c = C at *
 generalize l.length = n at *
 refine mcall_body func61 rfl call61 ?_ ?_ ?_
 rotate_left 2
 refine awp_slots (s' := (.ref 0 0 : V) :: zJ 12) rfl ?_; dsimp only [zJ]
 ·repeat' (first | refine Zq ?_ | refine Zt ?_ | refine Y8 fun K hK => ?_ | (apply hK; clear hK K) | (refine Zk 0 [] ?_; refine Zl ?_) | (refine Yb rfl ?_ ?_ <;> intro hcnd <;> (try simp at hcnd) <;> try exact dc) | refine Zx ?_ | clear hK K)
  simp
  exact mend_plain
 ·exact .int
 ·simp
theorem open_call (tag : Int) (l : List (Int × Bs)) (h : TcS l) (hn : (wrs l).length ≤ 1000000) (raw : Bs) : PCall prog 103 [.agg [.int .i64 tag, .str (wrs l), .str raw], .int .i64 tag] (.tup [.agg [elsV (wels l), .int .i64 0], .int .i64 0]) := by
 have hc := list_call l h hn
 have e : elsV (wels l) = .sl l.length ((wels l).flatMap El.c) := by unfold elsV; rw [show (wels l).length = l.length by simp [wels]]
 rw [e]
 generalize (wels l).flatMap El.c = C at *
 generalize wrs l = B at *
 generalize l.length = n at *
 refine pcall_body func103 rfl call103 ?_ ?_
 rotate_left 1
 refine awp_slots (s' := (.agg [.int .i64 tag, .str B, .str raw] : V) :: (.int .i64 tag : V) :: zJ 20) rfl ?_; dsimp only [zJ]
 ·repeat' (first | (refine Zu ?_; intro K9 h9; refine Zd ?_; ((first | refine Ap hc ?_ | skip) <;> (refine Zf h9 ?_; clear h9 K9))) | refine Zt ?_ | refine Y8 fun K hK => ?_ | (apply hK; clear hK K) | (refine Yb rfl ?_ ?_ <;> intro hcnd <;> (try simp at hcnd) <;> try exact dc) | refine Zx ?_ | clear hK K)
  simp
  exact .pure (by simp)
 ·exact .tup (by simp)
end Go.Proofs.YtnpndfmbkmbhbaaGreatDoor
namespace Go.Proofs.YtnpndfmbkmbhbaaGreatDoor
open Go.Proofs.Tryz
open Go.VS Go.Der
set_option linter.all false
attribute [local irreducible] arun arunD arunU AWp aend
theorem or0 : ∀ k : Nat, k < 128 → bits .or .u64 0 (k : Int) = (k : Int) := by decide +kernel
theorem putInt_call (k : Nat) (hk : k < 128) : PCall prog 95 [.int .i64 k] (.str [UInt8.ofNat k]) := by
 have z1 : (k : Int) / 256 = 0 := by omega
 have z2 : (k : Int) / 65536 = 0 := by omega
 have z3 : (k : Int) / 16777216 = 0 := by omega
 have z4 : (k : Int) / 4294967296 = 0 := by omega
 have z5 : (k : Int) / 1099511627776 = 0 := by omega
 have z6 : (k : Int) / 281474976710656 = 0 := by omega
 have z7 : (k : Int) / 72057594037927936 = 0 := by omega
 have k1 : (k : Int) < 128 := by omega
 refine pcall_body func95 rfl call95 ?_ ?_
 rotate_left 1
 refine awp_slots (s' := (.int .i64 k : V) :: zJ 50) rfl ?_; dsimp only [zJ]
 ·repeat' (first | ((first | refine ZuU ?_ | (refine ZvU ?_ ?_; (focus (simp [z1, z2, z3, z4, z5, z6, z7, k1]; done)))); intro K9 h9; simp (disch := first | exact dd | fail) [z1, z2, z3, z4, z5, z6, z7, k1]; refine Zm ?_; refine ZfU h9 ?_; clear h9 K9) | refine ZtU ?_ | (refine awp_rounds 12 fun KL hL => ?_) | refine Y8 fun K hK => ?_ | (apply hK; clear hK K) | (refine Yb rfl ?_ ?_ <;> intro hcnd <;> (try simp at hcnd) <;> try exact dc) | (refine ZnU ?_ ?_; (focus (simp [z1, z2, z3, z4, z5, z6, z7, k1]; done)); refine ZsU ?_) | refine Zx ?_ | clear hK K | (refine hL _ _ _ ?_) | (clear hK K) | (clear hL KL))
  exact .pure .str
 ·exact .str
theorem integer_call (k : Nat) (hk : k < 128) : PCall prog 142 [.str [UInt8.ofNat k]] (.tup [.int .i64 k, .int .i64 0]) := by
 have hb : (UInt8.ofNat k).toNat = k := u8n _ (by omega)
 have h0 := or0 k hk
 have k1 : ¬ 128 ≤ (k : Int) := by omega
 generalize UInt8.ofNat k = b at *
 refine pcall_body func142 rfl call142 ?_ ?_
 rotate_left 1
 refine awp_slots (s' := (.str [b] : V) :: zJ 54) rfl ?_; dsimp only [zJ]
 ·repeat' (first | ((first | refine ZuU ?_ | (refine ZvU ?_ ?_; (focus (simp [hb, h0, k1]; done)))); intro K9 h9; simp (disch := first | exact dd | fail) [hb, h0, k1]; refine Zm ?_; refine ZfU h9 ?_; clear h9 K9) | refine ZtU ?_ | (refine awp_rounds 3 fun KL hL => ?_) | refine Y8 fun K hK => ?_ | (apply hK; clear hK K) | (refine Yb rfl ?_ ?_ <;> intro hcnd <;> (try simp at hcnd) <;> try exact dc) | (refine ZnU ?_ ?_; (focus (simp [hb, h0, k1]; done)); refine ZsU ?_) | refine Zx ?_ | clear hK K | (refine hL _ _ _ ?_) | (clear hK K) | (clear hL KL))
  exact .pure (by simp)
 ·exact .tup (by simp)
end Go.Proofs.YtnpndfmbkmbhbaaGreatDoor
