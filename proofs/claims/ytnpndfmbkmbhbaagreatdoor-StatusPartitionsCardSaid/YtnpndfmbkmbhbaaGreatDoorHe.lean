/-
 ENCODINGS: object identifiers of the reference: as bytes.
 Conditions: none.
-/
import Derived.Test.YtnpndfmbkmbhbaaGreatDoorHd
import Derived.Test.YtnpndfmbkmbhbaaGreatDoorVs31
set_option maxRecDepth 100000
set_option maxHeartbeats 32000000
namespace Go.Proofs.YtnpndfmbkmbhbaaGreatDoor
open Go.Proofs.Tryz
open Go.VS Go.Der
set_option linter.all false
attribute [local irreducible] arun arunD arunU AWp aend
theorem encOidO_call : PCall prog 138 [.str [50, 46, 53, 46, 52, 46, 49, 48]] (.tup [.str [85, 4, 10], .int .i64 0]) := by
 have ha := arcsO_call
 refine pcall_body func138 rfl call138 ?_ ?_
 rotate_left 1
 refine awp_slots (s' := (.str [50, 46, 53, 46, 52, 46, 49, 48] : V) :: zJ 64) rfl ?_; dsimp only [zJ]
 ·repeat' (first | (refine ZuU ?_; intro K9 h9; refine Zd ?_; ((first | refine Zc ha ?_ | skip) <;> (refine ZfU h9 ?_; clear h9 K9))) | refine ZtU ?_ | (refine awp_rounds 12 fun KL hL => ?_) | refine Y8 fun K hK => ?_ | (apply hK; clear hK K) | ((first | refine Zk (ops := #[_, _, _, _, _, _, _, _, _, _, _, _, _]) 2 [0, 0, 0, 0, 0, 0, 0, 0, 0, 0, 1, 0, 0] ?_ | refine Zk 2 [] ?_); refine Zl ?_) | (refine Yb rfl ?_ ?_ <;> intro hcnd <;> (try simp at hcnd) <;> try exact dc) | refine Zx ?_ | clear hK K | (refine hL _ _ _ ?_) | (clear hK K) | (clear hL KL))
  exact .pure (by simp)
 ·exact .tup (by simp)
theorem encOidA_call : PCall prog 138 [.str [49, 46, 51, 46, 54, 46, 49, 46, 52, 46, 49, 46, 53, 56, 56, 56, 56, 46, 49, 46, 49]] (.tup [.str [43, 6, 1, 4, 1, 131, 204, 8, 1, 1], .int .i64 0]) := by
 have ha := arcsA_call
 refine pcall_body func138 rfl call138 ?_ ?_
 rotate_left 1
 refine awp_slots (s' := (.str [49, 46, 51, 46, 54, 46, 49, 46, 52, 46, 49, 46, 53, 56, 56, 56, 56, 46, 49, 46, 49] : V) :: zJ 64) rfl ?_; dsimp only [zJ]
 ·repeat' (first | (refine ZuU ?_; intro K9 h9; refine Zd ?_; ((first | refine Zc ha ?_ | skip) <;> (refine ZfU h9 ?_; clear h9 K9))) | refine ZtU ?_ | (refine awp_rounds 12 fun KL hL => ?_) | refine Y8 fun K hK => ?_ | (apply hK; clear hK K) | ((first | refine Zk (ops := #[_, _, _, _, _, _, _, _, _, _, _, _, _]) 2 [0, 0, 0, 0, 0, 0, 0, 0, 0, 0, 1, 0, 0] ?_ | refine Zk 2 [] ?_); refine Zl ?_) | (refine Yb rfl ?_ ?_ <;> intro hcnd <;> (try simp at hcnd) <;> try exact dc) | refine Zx ?_ | clear hK K | (refine hL _ _ _ ?_) | (clear hK K) | (clear hL KL))
  exact .pure (by simp)
 ·exact .tup (by simp)
theorem encOid29_call (j : Nat) (hj : j < 10) : PCall prog 138 [.str [50, 46, 53, 46, 50, 57, 46, 50, 48 + UInt8.ofNat j]] (.tup [.str [85, 29, 20 + UInt8.ofNat j], .int .i64 0]) := by
 have ha := arcs29_call j hj
 generalize ([50, 46, 53, 46, 50, 57, 46, 50, 48 + UInt8.ofNat j] : Bs) = B at *
 have g1 : (20 + (j : Int)) % 128 = 20 + j := by omega
 have g2 : (20 + (j : Int)) / 128 = 0 := by omega
 have g3 : (20 + (j : Int)).toNat = 20 + j := by omega
 refine pcall_body func138 rfl call138 ?_ ?_
 rotate_left 1
 refine awp_slots (s' := (.str B : V) :: zJ 64) rfl ?_; dsimp only [zJ]
 ·repeat' (first | (refine ZuU ?_; intro K9 h9; simp (disch := first | exact dd | fail) [g1, g2, g3]; refine Zm ?_; ((first | refine Zc ha ?_ | skip) <;> (refine ZfU h9 ?_; clear h9 K9))) | refine ZtU ?_ | (refine awp_rounds 12 fun KL hL => ?_) | refine Y8 fun K hK => ?_ | (apply hK; clear hK K) | ((first | refine Zk (ops := #[_, _, _, _, _, _, _, _, _, _, _, _, _]) 2 [0, 0, 0, 0, 0, 0, 0, 0, 0, 0, 1, 0, 0] ?_ | refine Zk 2 [] ?_); refine Zl ?_) | (refine Yb rfl ?_ ?_ <;> intro hcnd <;> (try simp at hcnd) <;> try exact dc) | refine Zx ?_ | clear hK K | (refine hL _ _ _ ?_) | (clear hK K) | (clear hL KL))
  exact .pure (by simp)
 ·exact .tup (by simp)
end Go.Proofs.YtnpndfmbkmbhbaaGreatDoor
namespace Go.Proofs.YtnpndfmbkmbhbaaGreatDoor
open Go.Proofs.Tryz
open Go.VS Go.Der
set_option linter.all false
attribute [local irreducible] arun arunD arunU AWp aend DU.arunD
attribute [local simp] DU.gval
theorem bits_call (s : Bs) (hs : s.length ≤ 1000000) : PCall prog 113 [.str (0 :: s)] (.tup [.str s, .int .i64 0, .int .i64 0]) := by
 have g : ¬ (s.length : Int) + 1 = 0 := by omega
 refine pcall_body func113 rfl call113 ?_ ?_
 rotate_left 1
 refine awp_slots (s' := (.str (0 :: s) : V) :: zJ 40) rfl ?_; dsimp only [zJ]
 ·repeat' (first | ((first | refine ZuD ?_ | (refine ZvD ?_ ?_; (focus (simp [g]; done)))); intro K9 h9; simp (disch := first | exact dd | fail) [g]; refine Zm ?_; refine ZfD h9 ?_; clear h9 K9) | refine ZtD ?_ | refine Y8 fun K hK => ?_ | (apply hK; clear hK K) | (refine DU.Zk 1 [] ?_; refine Zl ?_) | (refine Yb rfl ?_ ?_ <;> intro hcnd <;> (try simp at hcnd) <;> try exact dc) | (refine ZnD ?_ ?_; (focus (simp [g]; done)); refine ZsD ?_) | refine Zx ?_ | clear hK K)
  exact .pure (by simp)
 ·exact .tup (by simp)
end Go.Proofs.YtnpndfmbkmbhbaaGreatDoor
namespace Go.Proofs.YtnpndfmbkmbhbaaGreatDoor
open Go.Proofs.Tryz
open Go.VS Go.Der
set_option linter.all false
attribute [local irreducible] arun arunD arunU AWp aend
theorem booleanT_call : PCall prog 212 [.str [255]] (.tup [.bool true, .int .i64 0]) := by
 refine pcall_body func212 rfl call212 ?_ ?_
 rotate_left 1
 refine awp_slots (s' := (.str [255] : V) :: zJ 11) rfl ?_; dsimp only [zJ]
 ·repeat' (first | refine ZrU ?_ | refine ZtU ?_ | refine Y8 fun K hK => ?_ | (apply hK; clear hK K) | (refine Yb rfl ?_ ?_ <;> intro hcnd <;> (try simp at hcnd) <;> try exact dc) | refine ZoU ?_ | refine Zx ?_ | clear hK K)
  exact .pure (by simp)
 ·exact .tup (by simp)
theorem whole_call (tag : Int) (c : Bs) (ht : TagOk tag) (hc : c.length < 65536) : PCall prog 55 [.str (wr tag c), .int .i64 tag] (.tup [.agg (wel tag c).c, .int .i64 0]) := by
 have ho := one_call tag c ht hc
 unfold wel El.c at *
 dsimp only at ho ⊢
 generalize wr tag c = B at *
 refine pcall_body func55 rfl call55 ?_ ?_
 rotate_left 1
 refine awp_slots (s' := (.str B : V) :: (.int .i64 tag : V) :: zJ 21) rfl ?_; dsimp only [zJ]
 ·repeat' (first | (refine Zu ?_; intro K9 h9; refine Zd ?_; ((first | refine Ap ho ?_ | skip) <;> (refine Zf h9 ?_; clear h9 K9))) | refine Zt ?_ | refine Y8 fun K hK => ?_ | (apply hK; clear hK K) | (refine Yb rfl ?_ ?_ <;> intro hcnd <;> (try simp at hcnd) <;> try exact dc) | refine Zx ?_ | clear hK K)
  simp
  exact .pure (by simp)
 ·exact .tup (by simp)
theorem integerf_call (l : List El) (i k : Nat) (hi : i < l.length) (hk : k < 128) (hx : l[i] = wel 2 [UInt8.ofNat k]) (hl : l.length ≤ 1000000) : MCall prog 104 [.ref 0 0] (fldR l i) (fldR l (i + 1)) (.tup [.int .i64 k, .int .i64 0]) := by
 have hn := need_call l i 2 hi (.inr (by rw [hx]; rfl)) hl
 rw [hx] at hn
 have hc := integer_call k hk
 have hp1 := fldR_pures l i
 have hp2 := fldR_pures l (i + 1)
 unfold wel El.c at hn
 dsimp only at hn
 generalize wr 2 [UInt8.ofNat k] = raw at *
 generalize [UInt8.ofNat k] = B at *
 generalize fldR l i = r1 at *
 generalize fldR l (i + 1) = r2 at *
 refine mcall_body func104 rfl call104 ?_ ?_ ?_
 rotate_left 2
 refine awp_slots (s' := (.ref 0 0 : V) :: zJ 18) rfl ?_; dsimp only [zJ]
 ·repeat' (first | (refine Zu ?_; intro K9 h9; refine Zd ?_; ((first | refine Ap hc ?_ | refine acall_mutf hn rfl hp1 hp2 (.tup (by simp)) (by simp) ?_ | skip) <;> (refine Zf h9 ?_; clear h9 K9))) | refine Zt ?_ | refine Y8 fun K hK => ?_ | (apply hK; clear hK K) | (refine Yb rfl ?_ ?_ <;> intro hcnd <;> (try simp at hcnd) <;> try exact dc) | refine Zx ?_ | clear hK K)
  simp
  exact mend_plain
 ·exact .tup (by simp)
 ·exact hp2
theorem timef_call (l : List El) (i t : Nat) (hi : i < l.length) (ht : t < 10) (hx : l[i] = wel 23 (timeC t)) (hl : l.length ≤ 1000000) : MCall prog 106 [.ref 0 0] (fldR l i) (fldR l (i + 1)) (.tup [.int .i64 t, .int .i64 0]) := by
 have hn := need_call l i (-1) hi (.inl (by omega)) hl
 rw [hx] at hn
 have hc := dtime_call t ht
 have hp1 := fldR_pures l i
 have hp2 := fldR_pures l (i + 1)
 unfold wel El.c at hn
 dsimp only at hn
 generalize wr 23 (timeC t) = raw at *
 generalize timeC t = B at *
 generalize fldR l i = r1 at *
 generalize fldR l (i + 1) = r2 at *
 refine mcall_body func106 rfl call106 ?_ ?_ ?_
 rotate_left 2
 refine awp_slots (s' := (.ref 0 0 : V) :: zJ 20) rfl ?_; dsimp only [zJ]
 ·repeat' (first | (refine Zu ?_; intro K9 h9; refine Zd ?_; ((first | refine Ap hc ?_ | refine acall_mutf hn rfl hp1 hp2 (.tup (by simp)) (by simp) ?_ | skip) <;> (refine Zf h9 ?_; clear h9 K9))) | refine Zt ?_ | refine Y8 fun K hK => ?_ | (apply hK; clear hK K) | (refine Yb rfl ?_ ?_ <;> intro hcnd <;> (try simp at hcnd) <;> try exact dc) | refine Zx ?_ | clear hK K)
  simp
  exact mend_plain
 ·exact .tup (by simp)
 ·exact hp2
theorem flagT_call (l : List El) (i : Nat) (t : Int) (hi : i < l.length) (hx : l[i] = wel t [255]) (hl : l.length ≤ 1000000) : MCall prog 177 [.ref 0 0, .int .i64 t] (fldR l i) (fldR l (i + 1)) (.tup [.bool true, .int .i64 0]) := by
 have hn := may_call l i t hi (by rw [hx]; rfl) hl
 rw [hx] at hn
 have hc := booleanT_call
 have hp1 := fldR_pures l i
 have hp2 := fldR_pures l (i + 1)
 unfold wel El.c at hn
 dsimp only at hn
 generalize wr t [255] = raw at *
 generalize fldR l i = r1 at *
 generalize fldR l (i + 1) = r2 at *
 refine mcall_body func177 rfl call177 ?_ ?_ ?_
 rotate_left 2
 refine awp_slots (s' := (.ref 0 0 : V) :: (.int .i64 t : V) :: zJ 27) rfl ?_; dsimp only [zJ]
 ·repeat' (first | (refine Zu ?_; intro K9 h9; refine Zd ?_; ((first | refine Ap hc ?_ | refine acall_mutf hn rfl hp1 hp2 (.tup (by simp)) (by simp) ?_ | skip) <;> (refine Zf h9 ?_; clear h9 K9))) | refine Zt ?_ | refine Y8 fun K hK => ?_ | (apply hK; clear hK K) | (refine Yb rfl ?_ ?_ <;> intro hcnd <;> (try simp at hcnd) <;> try exact dc) | refine Zx ?_ | clear hK K)
  simp
  exact mend_plain
 ·exact .tup (by simp)
 ·exact hp2
theorem flagF_call (l : List El) (i : Nat) (t : Int) (hm : MCall prog 107 [.ref 0 0, .int .i64 t] (fldR l i) (fldR l i) (.tup [.agg [.int .i64 0, .str [], .str []], .bool false])) : MCall prog 177 [.ref 0 0, .int .i64 t] (fldR l i) (fldR l i) (.tup [.bool false, .int .i64 0]) := by
 have hp1 := fldR_pures l i
 generalize fldR l i = r1 at *
 refine mcall_body func177 rfl call177 ?_ ?_ ?_
 rotate_left 2
 refine awp_slots (s' := (.ref 0 0 : V) :: (.int .i64 t : V) :: zJ 27) rfl ?_; dsimp only [zJ]
 ·repeat' (first | (refine Zu ?_; intro K9 h9; refine Zd ?_; ((first | refine acall_mutf hm rfl hp1 hp1 (.tup (by simp)) (by simp) ?_ | skip) <;> (refine Zf h9 ?_; clear h9 K9))) | refine Zt ?_ | refine Y8 fun K hK => ?_ | (apply hK; clear hK K) | (refine Yb rfl ?_ ?_ <;> intro hcnd <;> (try simp at hcnd) <;> try exact dc) | refine Zx ?_ | clear hK K)
  simp
  exact mend_plain
 ·exact .tup (by simp)
 ·exact hp1
theorem signature_call (l : List El) (i : Nat) (s : Bs) (hi : i < l.length) (hs : s.length ≤ 1000000) (hx : l[i] = wel 3 (0 :: s)) (hl : l.length ≤ 1000000) : MCall prog 60 [.ref 0 0] (fldR l i) (fldR l (i + 1)) (.tup [.str s, .int .i64 0]) := by
 have hn := need_call l i 3 hi (.inr (by rw [hx]; rfl)) hl
 rw [hx] at hn
 have hc := bits_call s hs
 have hp1 := fldR_pures l i
 have hp2 := fldR_pures l (i + 1)
 unfold wel El.c at hn
 dsimp only at hn
 generalize wr 3 (0 :: s) = raw at *
 generalize (0 :: s : Bs) = B at *
 generalize fldR l i = r1 at *
 generalize fldR l (i + 1) = r2 at *
 refine mcall_body func60 rfl call60 ?_ ?_ ?_
 rotate_left 2
 refine awp_slots (s' := (.ref 0 0 : V) :: zJ 28) rfl ?_; dsimp only [zJ]
 ·repeat' (first | (refine Zu ?_; intro K9 h9; refine Zd ?_; ((first | refine Ap hc ?_ | refine acall_mutf hn rfl hp1 hp2 (.tup (by simp)) (by simp) ?_ | skip) <;> (refine Zf h9 ?_; clear h9 K9))) | refine Zt ?_ | refine Y8 fun K hK => ?_ | (apply hK; clear hK K) | (refine Yb rfl ?_ ?_ <;> intro hcnd <;> (try simp at hcnd) <;> try exact dc) | refine Zx ?_ | clear hK K)
  simp
  exact mend_plain
 ·exact .tup (by simp)
 ·exact hp2
end Go.Proofs.YtnpndfmbkmbhbaaGreatDoor
