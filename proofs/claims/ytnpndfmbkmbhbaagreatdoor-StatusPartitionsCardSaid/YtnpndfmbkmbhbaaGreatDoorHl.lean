/-
 ENCODINGS: extensions of lists, wrapped.
 Conditions: none.
-/
import Derived.Test.YtnpndfmbkmbhbaaGreatDoorHk
set_option maxRecDepth 100000
set_option maxHeartbeats 32000000
set_option linter.all false
namespace Go.Proofs.YtnpndfmbkmbhbaaGreatDoor
open Go.Proofs.Tryz
open Go.VS Go.Der Go.Stp
attribute [local irreducible] arun arunD arunU AWp aend
theorem lextN_call (raw tbs sig : Bs) (this next : Int) (num n : Nat) (hnum : num < 128) (B E : List V) : PCall prog 48 [.agg [.str raw, .str tbs, .sl 1 B, .int .i64 this, .int .i64 next, .int .i64 (num : Int), .int .i64 (-1), .str [], .bool false, .sl 0 [], .bool false, .bool false, .int .i64 0, .bool false, .sl 0 [], .sl n E, .str sig]] (.tup [.sl 1 [.str [50, 46, 53, 46, 50, 57, 46, 50, 48], .bool false, .str (wr 2 [UInt8.ofNat num])], .int .i64 0]) := by
 have hn := number_call 2 num ⟨by omega, by omega, by omega⟩ hnum
 generalize wr 2 [UInt8.ofNat num] = U at *
 refine pcall_body func48 rfl call48 ?_ ?_
 rotate_left 1
 refine awp_slots (s' := (.agg [.str raw, .str tbs, .sl 1 B, .int .i64 this, .int .i64 next, .int .i64 (num : Int), .int .i64 (-1), .str [], .bool false, .sl 0 [], .bool false, .bool false, .int .i64 0, .bool false, .sl 0 [], .sl n E, .str sig] : V) :: zJ 85) rfl ?_; dsimp only [zJ]
 ·repeat' (first | (refine Zu ?_; intro K9 h9; refine Zd ?_; ((first | refine Zc hn ?_ | skip) <;> (refine Zf h9 ?_; clear h9 K9))) | refine Zt ?_ | refine Y8 fun K hK => ?_ | (apply hK; clear hK K) | ((first | refine Zk (ops := #[_, _, _, _, _, _, _, _, _, _, _, _, _, _, _, _, _, _, _, _, _, _, _]) 1 [0, 0, 0, 1, 0, 0, 0, 1, 0, 0, 0, 1, 0, 0, 0, 1, 0, 0, 0, 1, 0, 0, 0] ?_ | refine Zk 1 [] ?_); refine Zl ?_) | (refine Yb rfl ?_ ?_ <;> intro hcnd <;> (try simp at hcnd) <;> try exact dc) | refine Zx ?_ | clear hK K)
  simp
  exact view_tup ⟨view_row rfl (by simp) (by simp), .pure .int, trivial⟩
 ·exact .tup (by simp)
theorem lextD_call (raw tbs sig : Bs) (this next : Int) (num n : Nat) (hnum : num < 128) (B E : List V) (b : Nat) (hb : b < 128) : PCall prog 48 [.agg [.str raw, .str tbs, .sl 1 B, .int .i64 this, .int .i64 next, .int .i64 (num : Int), .int .i64 (b : Int), .str [], .bool false, .sl 0 [], .bool false, .bool false, .int .i64 0, .bool false, .sl 0 [], .sl n E, .str sig]] (.tup [.sl 2 [.str [50, 46, 53, 46, 50, 57, 46, 50, 48], .bool false, .str (wr 2 [UInt8.ofNat num]), .str [50, 46, 53, 46, 50, 57, 46, 50, 55], .bool true, .str (wr 2 [UInt8.ofNat b])], .int .i64 0]) := by
 have hn := number_call 2 num ⟨by omega, by omega, by omega⟩ hnum
 have hb2 := number_call 2 b ⟨by omega, by omega, by omega⟩ hb
 have g : ¬ (b : Int) = -1 := by omega
 generalize wr 2 [UInt8.ofNat num] = U at *
 generalize wr 2 [UInt8.ofNat b] = Z at *
 refine pcall_body func48 rfl call48 ?_ ?_
 rotate_left 1
 refine awp_slots (s' := (.agg [.str raw, .str tbs, .sl 1 B, .int .i64 this, .int .i64 next, .int .i64 (num : Int), .int .i64 (b : Int), .str [], .bool false, .sl 0 [], .bool false, .bool false, .int .i64 0, .bool false, .sl 0 [], .sl n E, .str sig] : V) :: zJ 85) rfl ?_; dsimp only [zJ]
 ·repeat' (first | (refine Zu ?_; intro K9 h9; simp (disch := first | exact dd | fail) [g]; refine Zm ?_; ((first | refine Zc hn ?_ | refine Zc hb2 ?_ | skip) <;> (refine Zf h9 ?_; clear h9 K9))) | refine Zt ?_ | refine Y8 fun K hK => ?_ | (apply hK; clear hK K) | ((first | refine Zk (ops := #[_, _, _, _, _, _, _, _, _, _, _, _, _, _, _, _, _, _, _, _, _, _, _]) 1 [0, 0, 0, 1, 0, 0, 0, 1, 0, 0, 0, 1, 0, 0, 0, 1, 0, 0, 0, 1, 0, 0, 0] ?_ | refine Zk 1 [] ?_); refine Zl ?_) | (refine Yb rfl ?_ ?_ <;> intro hcnd <;> (try simp at hcnd) <;> try exact dc) | refine Zx ?_ | clear hK K)
  simp
  exact view_tup ⟨view_row rfl (by simp) (by simp), .pure .int, trivial⟩
 ·exact .tup (by simp)
theorem lextP_call (raw tbs sig : Bs) (this next : Int) (num n : Nat) (hnum : num < 128) (B E : List V) (rea : Int) (ind : Bool) (F G : Bs) (hF : F.length ≤ 100) (hG : G.length ≤ 100) (hfl : PCall prog 93 [.int .i64 131, .int .i64 rea] (.str F)) (hbl : PCall prog 92 [.int .i64 132, .bool ind] (.str G)) : PCall prog 48 [.agg [.str raw, .str tbs, .sl 1 B, .int .i64 this, .int .i64 next, .int .i64 (num : Int), .int .i64 (-1), .str [], .bool true, .sl 0 [], .bool false, .bool false, .int .i64 rea, .bool ind, .sl 0 [], .sl n E, .str sig]] (.tup [.sl 2 [.str [50, 46, 53, 46, 50, 57, 46, 50, 48], .bool false, .str (wr 2 [UInt8.ofNat num]), .str [50, 46, 53, 46, 50, 57, 46, 50, 56], .bool true, .str (wr 48 (F ++ G))], .int .i64 0]) := by
 have hn := number_call 2 num ⟨by omega, by omega, by omega⟩ hnum
 have hfn := fullNames0_call
 have hb1 := booleanF_call 129
 have hb2 := booleanF_call 130
 have hw := wrap7_call 48 [[], [], [], F, G] ⟨by omega, by omega, by omega⟩ (by simp) (by simp; omega)
 rw [show ([[], [], [], F, G] : List Bs).flatten = F ++ G by simp] at hw
 generalize wr 48 (F ++ G) = Y at *
 generalize wr 2 [UInt8.ofNat num] = U at *
 refine pcall_body func48 rfl call48 ?_ ?_
 rotate_left 1
 refine awp_slots (s' := (.agg [.str raw, .str tbs, .sl 1 B, .int .i64 this, .int .i64 next, .int .i64 (num : Int), .int .i64 (-1), .str [], .bool true, .sl 0 [], .bool false, .bool false, .int .i64 rea, .bool ind, .sl 0 [], .sl n E, .str sig] : V) :: zJ 85) rfl ?_; dsimp only [zJ]
 ·repeat' (first | (refine Zu ?_; intro K9 h9; refine Zd ?_; ((first | refine Zc hn ?_ | refine Zc hfn ?_ | refine Zc hb1 ?_ | refine Zc hb2 ?_ | refine Zc hfl ?_ | refine Zc hbl ?_ | refine acall_view hw ⟨.pure .int, view_row rfl (by simp) (by simp), trivial⟩ .str ?_ | skip) <;> (refine Zf h9 ?_; clear h9 K9))) | refine Zt ?_ | refine Y8 fun K hK => ?_ | (apply hK; clear hK K) | ((first | refine Zk (ops := #[_, _, _, _, _, _, _, _, _, _, _, _, _, _, _, _, _, _, _, _, _, _, _]) 1 [0, 0, 0, 1, 0, 0, 0, 1, 0, 0, 0, 1, 0, 0, 0, 1, 0, 0, 0, 1, 0, 0, 0] ?_ | refine Zk 1 [] ?_); refine Zl ?_) | (refine Yb rfl ?_ ?_ <;> intro hcnd <;> (try simp at hcnd) <;> try exact dc) | refine Zx ?_ | clear hK K)
  simp
  exact view_tup ⟨view_row rfl (by simp) (by simp), .pure .int, trivial⟩
 ·exact .tup (by simp)
theorem wrapped_call (L : List (Ex × Bs)) (hl : L.length ≤ 24) (hne : L ≠ []) (hok : ∀ p ∈ L, EOk p) (hd : ∀ (i : Nat) (hi : i < (exL L).length), ∀ x ∈ (exL L).take i, x.id ≠ (exL L)[i].id) : PCall prog 49 [.int .i64 160, exsV (exL L)] (.tup [.str (wr 160 (wr 48 (exsC L))), .int .i64 0]) := by
 have hx := encExts_call L hl hne hok hd
 have hbl := exsC_len L fun p hp => ⟨(hok p hp).cl, (hok p hp).vl⟩
 clear hd hok
 have hw1 := @wr_len 48 (exsC L)
 have hw := fit_call 160 [wr 48 (exsC L)] ⟨by omega, by omega, by omega⟩ (by simp) (by simp; omega)
 rw [show ([wr 48 (exsC L)] : List Bs).flatten = wr 48 (exsC L) by simp] at hw
 rw [show exsV (exL L) = .sl (exL L).length ((exL L).flatMap Ex.c) from rfl] at hx ⊢
 generalize wr 160 (wr 48 (exsC L)) = R at *
 generalize wr 48 (exsC L) = S at *
 generalize (exL L).flatMap Ex.c = C at *
 generalize (exL L).length = n at *
 refine pcall_body func49 rfl call49 ?_ ?_
 rotate_left 1
 refine awp_slots (s' := (.int .i64 160 : V) :: (.sl n C : V) :: zJ 20) rfl ?_; dsimp only [zJ]
 ·repeat' (first | (refine Zu ?_; intro K9 h9; refine Zd ?_; ((first | refine Ap hx ?_ | refine acall_view hw ⟨.pure .int, view_row rfl (by simp) (by simp), trivial⟩ (.tup (by simp)) ?_ | skip) <;> (refine Zf h9 ?_; clear h9 K9))) | refine Zt ?_ | refine Y8 fun K hK => ?_ | (apply hK; clear hK K) | (refine Yb rfl ?_ ?_ <;> intro hcnd <;> (try simp at hcnd) <;> try exact dc) | refine Zx ?_ | clear hK K)
  exact .pure (by simp)
 ·exact .tup (by simp)
end Go.Proofs.YtnpndfmbkmbhbaaGreatDoor
namespace Go.Proofs.YtnpndfmbkmbhbaaGreatDoor
open Go.Proofs.Tryz
open Go.VS Go.Der Go.Stp
attribute [local irreducible] arun arunD arunU AWp aend
theorem encTbs0_call (raw tbs sig v : Bs) (hv : VOk v) (this next : Nat) (h1 : this < 10) (h2 : next < 10) (num base rea : Int) (has ind : Bool) (B C : List V) (k : Nat) (W : Bs) (hW : W.length ≤ 60000) (hB : nmV (nm1 v) = .sl 1 B) (hck : PCall prog 43 [.agg [.str raw, .str tbs, .sl 1 B, .int .i64 (this : Int), .int .i64 (next : Int), .int .i64 num, .int .i64 base, .str [], .bool has, .sl 0 [], .bool false, .bool false, .int .i64 rea, .bool ind, .sl 0 [], .sl 0 [], .str sig]] (.int .i64 0)) (hlx : PCall prog 48 [.agg [.str raw, .str tbs, .sl 1 B, .int .i64 (this : Int), .int .i64 (next : Int), .int .i64 num, .int .i64 base, .str [], .bool has, .sl 0 [], .bool false, .bool false, .int .i64 rea, .bool ind, .sl 0 [], .sl 0 [], .str sig]] (.tup [.sl k C, .int .i64 0])) (hwp : PCall prog 49 [.int .i64 160, .sl k C] (.tup [.str (wr 160 W), .int .i64 0])) : PCall prog 29 [.agg [.str raw, .str tbs, .sl 1 B, .int .i64 (this : Int), .int .i64 (next : Int), .int .i64 num, .int .i64 base, .str [], .bool has, .sl 0 [], .bool false, .bool false, .int .i64 rea, .bool ind, .sl 0 [], .sl 0 [], .str sig]] (.tup [.str (wr 48 (wrs (tbsP v this next [] W))), .int .i64 0]) := by
 have ha := algorithm0_call
 have hn : PCall prog 50 [.int .i64 2, .int .i64 1] (.str (wr 2 [1])) := number_call 2 1 ⟨by omega, by omega, by omega⟩ (by omega)
 have ht1 := etime_call this h1
 have ht2 := etime_call next h2
 have he := encName_call v hv.txt hv.len hv.ne
 rw [hB] at he
 have l1 := nmB_len v hv.len
 have l2 : (timeB this).length = 15 := rfl
 have l3 : (timeB next).length = 15 := rfl
 have l4 : algB.length ≤ 100 := by decide
 have l5 := @wr_len 160 W
 have l6 : (wr 2 [1]).length = 3 := rfl
 have hw := fit_call 48 [wr 2 [1], algB, nmB v, timeB this, timeB next, [], wr 160 W] ⟨by omega, by omega, by omega⟩ (by simp) (by simp; omega)
 rw [show ([wr 2 [1], algB, nmB v, timeB this, timeB next, [], wr 160 W] : List Bs).flatten = wrs (tbsP v this next [] W) by simp [tbsP, wrs, algB, nmB, timeB]] at hw
 generalize wr 48 (wrs (tbsP v this next [] W)) = R at *
 generalize wr 160 W = U at *
 generalize timeB this = T1 at *
 generalize timeB next = T2 at *
 generalize nmB v = NB at *
 generalize algB = AB at *
 refine pcall_body func29 rfl call29 ?_ ?_
 rotate_left 1
 refine awp_slots (s' := (.agg [.str raw, .str tbs, .sl 1 B, .int .i64 (this : Int), .int .i64 (next : Int), .int .i64 num, .int .i64 base, .str [], .bool has, .sl 0 [], .bool false, .bool false, .int .i64 rea, .bool ind, .sl 0 [], .sl 0 [], .str sig] : V) :: zJ 98) rfl ?_; dsimp only [zJ]
 ·repeat' (first | (refine Zu ?_; intro K9 h9; refine Zd ?_; ((first | refine Ap hck ?_ | refine Ap ha ?_ | refine Ap hn ?_ | refine Ap ht1 ?_ | refine Ap ht2 ?_ | refine Ap he ?_ | refine Ap hlx ?_ | refine Ap hwp ?_ | refine acall_view hw ⟨.pure .int, view_row rfl (by simp) (by simp), trivial⟩ (.tup (by simp)) ?_ | skip) <;> (refine Zf h9 ?_; clear h9 K9))) | refine Zt ?_ | (refine awp_rounds 3 fun KL hL => ?_) | refine Y8 fun K hK => ?_ | (apply hK; clear hK K) | (refine Yb rfl ?_ ?_ <;> intro hcnd <;> (try simp at hcnd) <;> try exact dc) | refine Zx ?_ | clear hK K | (refine hL _ _ _ ?_) | (clear hK K) | (clear hL KL))
  exact .pure (by simp)
 ·exact .tup (by simp)
theorem encTbs1_call (raw tbs sig v : Bs) (hv : VOk v) (this next : Nat) (h1 : this < 10) (h2 : next < 10) (num base rea : Int) (has ind : Bool) (B C : List V) (k : Nat) (W : Bs) (hW : W.length ≤ 60000) (hB : nmV (nm1 v) = .sl 1 B) (e1 e2 e3 e4 : V) (p1 : e1.Pure ∧ e1.one = true) (p2 : e2.Pure ∧ e2.one = true) (p3 : e3.Pure ∧ e3.one = true) (p4 : e4.Pure ∧ e4.one = true) (A : List V) (Y : Bs) (hY : Y.length ≤ 1000) (hck : PCall prog 43 [.agg [.str raw, .str tbs, .sl 1 B, .int .i64 (this : Int), .int .i64 (next : Int), .int .i64 num, .int .i64 base, .str [], .bool has, .sl 0 [], .bool false, .bool false, .int .i64 rea, .bool ind, .sl 0 [], .sl 1 [e1, e2, e3, e4, .sl 1 A], .str sig]] (.int .i64 0)) (hlx : PCall prog 48 [.agg [.str raw, .str tbs, .sl 1 B, .int .i64 (this : Int), .int .i64 (next : Int), .int .i64 num, .int .i64 base, .str [], .bool has, .sl 0 [], .bool false, .bool false, .int .i64 rea, .bool ind, .sl 0 [], .sl 1 [e1, e2, e3, e4, .sl 1 A], .str sig]] (.tup [.sl k C, .int .i64 0])) (hwp : PCall prog 49 [.int .i64 160, .sl k C] (.tup [.str (wr 160 W), .int .i64 0])) (hen : PCall prog 46 [.agg [e1, e2, e3, e4, .sl 1 A], .agg [.sl 1 B]] (.str Y)) : PCall prog 29 [.agg [.str raw, .str tbs, .sl 1 B, .int .i64 (this : Int), .int .i64 (next : Int), .int .i64 num, .int .i64 base, .str [], .bool has, .sl 0 [], .bool false, .bool false, .int .i64 rea, .bool ind, .sl 0 [], .sl 1 [e1, e2, e3, e4, .sl 1 A], .str sig]] (.tup [.str (wr 48 (wrs (tbsP v this next [(48, Y)] W))), .int .i64 0]) := by
 have ha := algorithm0_call
 have hn : PCall prog 50 [.int .i64 2, .int .i64 1] (.str (wr 2 [1])) := number_call 2 1 ⟨by omega, by omega, by omega⟩ (by omega)
 have ht1 := etime_call this h1
 have ht2 := etime_call next h2
 have he := encName_call v hv.txt hv.len hv.ne
 rw [hB] at he
 have l1 := nmB_len v hv.len
 have l2 : (timeB this).length = 15 := rfl
 have l3 : (timeB next).length = 15 := rfl
 have l4 : algB.length ≤ 100 := by decide
 have l5 := @wr_len 160 W
 have l6 : (wr 2 [1]).length = 3 := rfl
 have l7 := @wr_len 48 Y
 have hfe := fit_call 48 [Y] ⟨by omega, by omega, by omega⟩ (by simp) (by simp; omega)
 rw [show ([Y] : List Bs).flatten = Y by simp] at hfe
 have hw := fit_call 48 [wr 2 [1], algB, nmB v, timeB this, timeB next, wr 48 Y, wr 160 W] ⟨by omega, by omega, by omega⟩ (by simp) (by simp; omega)
 rw [show ([wr 2 [1], algB, nmB v, timeB this, timeB next, wr 48 Y, wr 160 W] : List Bs).flatten = wrs (tbsP v this next [(48, Y)] W) by simp [tbsP, wrs, algB, nmB, timeB]] at hw
 generalize wr 48 (wrs (tbsP v this next [(48, Y)] W)) = R at *
 generalize wr 160 W = U at *
 generalize timeB this = T1 at *
 generalize timeB next = T2 at *
 generalize nmB v = NB at *
 generalize algB = AB at *
 generalize wr 48 Y = Y2 at *
 refine pcall_body func29 rfl call29 ?_ ?_
 rotate_left 1
 refine awp_slots (s' := (.agg [.str raw, .str tbs, .sl 1 B, .int .i64 (this : Int), .int .i64 (next : Int), .int .i64 num, .int .i64 base, .str [], .bool has, .sl 0 [], .bool false, .bool false, .int .i64 rea, .bool ind, .sl 0 [], .sl 1 [e1, e2, e3, e4, .sl 1 A], .str sig] : V) :: zJ 98) rfl ?_; dsimp only [zJ]
 ·repeat' (first | (refine Zu ?_; intro K9 h9; simp (disch := first | exact dd | fail) [p1, p2, p3, p4]; refine Zm ?_; ((first | refine Ap hck ?_ | refine Ap ha ?_ | refine Ap hn ?_ | refine Ap ht1 ?_ | refine Ap ht2 ?_ | refine Ap he ?_ | refine Ap hlx ?_ | refine Ap hwp ?_ | refine acall_pure hen (by simp [p1, p2, p3, p4]) ?_ | refine acall_view hfe ⟨.pure .int, view_row rfl (by simp) (by simp), trivial⟩ (.tup (by simp)) ?_ | refine acall_view hw ⟨.pure .int, view_row rfl (by simp) (by simp), trivial⟩ (.tup (by simp)) ?_ | skip) <;> (refine Zf h9 ?_; clear h9 K9))) | refine Zt ?_ | (refine awp_rounds 3 fun KL hL => ?_) | refine Y8 fun K hK => ?_ | (apply hK; clear hK K) | (refine Yb rfl ?_ ?_ <;> intro hcnd <;> (try simp at hcnd) <;> try exact dc) | refine Zx ?_ | clear hK K | (refine hL _ _ _ ?_) | (clear hK K) | (clear hL KL))
  exact .pure (by simp)
 ·exact .tup (by simp)
end Go.Proofs.YtnpndfmbkmbhbaaGreatDoor
