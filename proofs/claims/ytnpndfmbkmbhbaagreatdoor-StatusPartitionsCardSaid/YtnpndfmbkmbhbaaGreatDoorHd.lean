/-
 ENCODINGS: object identifiers of the reference: the arcs of the few that are needed.
 Conditions: none.
-/
import Derived.Test.YtnpndfmbkmbhbaaGreatDoorHc
set_option maxRecDepth 100000
set_option maxHeartbeats 32000000
namespace Go.Proofs.YtnpndfmbkmbhbaaGreatDoor
open Go.Proofs.Tryz
open Go.VS Go.Der
set_option linter.all false
attribute [local irreducible] arun arunD arunU AWp aend
theorem arcs29_call (j : Nat) (hj : j < 10) : PCall prog 171 [.str [50, 46, 53, 46, 50, 57, 46, 50, 48 + UInt8.ofNat j]] (.tup [.sl 4 [.int .i64 2, .int .i64 5, .int .i64 29, .int .i64 (20 + j)], .bool true]) := by
 have hb : (48 + UInt8.ofNat j).toNat = 48 + j := by simp [UInt8.toNat_add, UInt8.toNat_ofNat']; omega
 generalize 48 + UInt8.ofNat j = b at *
 have g1 : ¬ (b.toNat : Int) < 48 := by omega
 have g2 : ¬ 57 < (b.toNat : Int) := by omega
 have g3 : ¬ b.toNat = 46 := by omega
 have g4 : (b.toNat : Int) - 48 = j := by omega
 refine pcall_body func171 rfl call171 ?_ ?_
 rotate_left 1
 refine awp_slots (s' := (.str [50, 46, 53, 46, 50, 57, 46, 50, b] : V) :: zJ 106) rfl ?_; dsimp only [zJ]
 ·repeat' (first | ((first | refine Yl rfl fun K9 h9 => ?_ | (refine Ym ?_ ?_; (focus (simp [g1, g2, g3, g4]; done)); intro K9 h9)); simp (disch := first | exact dd | fail) [g1, g2, g3, g4]; (try simp (disch := first | exact de | fail) only [X7]); ((repeat (refine Yz ?_)); (first | refine h9 _ _ (Yp ?_)); clear h9 K9)) | refine Yo ?_ | (refine awp_rounds 12 fun KL hL => ?_) | (refine Y8 fun K hK => ?_) | refine Yq ?_ | (apply hK; clear hK K) | refine Ya ?_ | (refine Yb rfl ?_ ?_ <;> intro hcnd <;> (try simp at hcnd) <;> try exact dc) | refine Yc ?_ | (refine Yd ?_; simp only [X0, Nat.reduceBEq]) | (refine Ye ?_; refine Yf ?_) | (refine Yn ?_ ?_; (focus (simp [g1, g2, g3, g4]; done)); refine Yp ?_) | refine Yg ?_ | (simp only [X0, Nat.reduceBEq]) | clear hK K | (refine hL _ _ _ ?_) | (clear hK K) | (clear hL KL))
  exact view_tup ⟨view_row rfl (by simp) (by simp), .pure .bool, trivial⟩
 ·exact .tup (by simp)
theorem arcsO_call : PCall prog 171 [.str [50, 46, 53, 46, 52, 46, 49, 48]] (.tup [.sl 4 [.int .i64 2, .int .i64 5, .int .i64 4, .int .i64 10], .bool true]) := by
 refine pcall_body func171 rfl call171 ?_ ?_
 rotate_left 1
 refine awp_slots (s' := (.str [50, 46, 53, 46, 52, 46, 49, 48] : V) :: zJ 106) rfl ?_; dsimp only [zJ]
 ·repeat' (first | ((first | refine Yl rfl fun K9 h9 => ?_ | (refine Ym ?_ ?_; (focus (simp; done)); intro K9 h9)); simp (disch := first | exact dd | fail); (try simp (disch := first | exact de | fail) only [X7]); ((repeat (refine Yz ?_)); (first | refine h9 _ _ (Yp ?_)); clear h9 K9)) | refine Yo ?_ | (refine awp_rounds 12 fun KL hL => ?_) | (refine Y8 fun K hK => ?_) | refine Yq ?_ | (apply hK; clear hK K) | refine Ya ?_ | (refine Yb rfl ?_ ?_ <;> intro hcnd <;> (try simp at hcnd) <;> try exact dc) | refine Yc ?_ | (refine Yd ?_; simp only [X0, Nat.reduceBEq]) | (refine Ye ?_; refine Yf ?_) | (refine Yn ?_ ?_; (focus (simp; done)); refine Yp ?_) | refine Yg ?_ | (simp only [X0, Nat.reduceBEq]) | clear hK K | (refine hL _ _ _ ?_) | (clear hK K) | (clear hL KL))
  exact view_tup ⟨view_row rfl (by simp) (by simp), .pure .bool, trivial⟩
 ·exact .tup (by simp)
theorem arcsA_call : PCall prog 171 [.str [49, 46, 51, 46, 54, 46, 49, 46, 52, 46, 49, 46, 53, 56, 56, 56, 56, 46, 49, 46, 49]] (.tup [.sl 9 [.int .i64 1, .int .i64 3, .int .i64 6, .int .i64 1, .int .i64 4, .int .i64 1, .int .i64 58888, .int .i64 1, .int .i64 1], .bool true]) := by
 refine pcall_body func171 rfl call171 ?_ ?_
 rotate_left 1
 refine awp_slots (s' := (.str [49, 46, 51, 46, 54, 46, 49, 46, 52, 46, 49, 46, 53, 56, 56, 56, 56, 46, 49, 46, 49] : V) :: zJ 106) rfl ?_; dsimp only [zJ]
 ·repeat' (first | ((first | refine Yl rfl fun K9 h9 => ?_ | (refine Ym ?_ ?_; (focus (simp; done)); intro K9 h9)); simp (disch := first | exact dd | fail); (try simp (disch := first | exact de | fail) only [X7]); ((repeat (refine Yz ?_)); (first | refine h9 _ _ (Yp ?_)); clear h9 K9)) | refine Yo ?_ | (refine awp_rounds 25 fun KL hL => ?_) | (refine Y8 fun K hK => ?_) | refine Yq ?_ | (apply hK; clear hK K) | refine Ya ?_ | (refine Yb rfl ?_ ?_ <;> intro hcnd <;> (try simp at hcnd) <;> try exact dc) | refine Yc ?_ | (refine Yd ?_; simp only [X0, Nat.reduceBEq]) | (refine Ye ?_; refine Yf ?_) | (refine Yn ?_ ?_; (focus (simp; done)); refine Yp ?_) | refine Yg ?_ | (simp only [X0, Nat.reduceBEq]) | clear hK K | (refine hL _ _ _ ?_) | (clear hK K) | (clear hL KL))
  exact view_tup ⟨view_row rfl (by simp) (by simp), .pure .bool, trivial⟩
 ·exact .tup (by simp)
theorem validO_call : PCall prog 165 [.str [50, 46, 53, 46, 52, 46, 49, 48]] (.bool true) := by
 have ha := arcsO_call
 refine pcall_body func165 rfl call165 ?_ ?_
 rotate_left 1
 refine awp_slots (s' := (.str [50, 46, 53, 46, 52, 46, 49, 48] : V) :: zJ 10) rfl ?_; dsimp only [zJ]
 ·repeat' (first | (refine Y0 rfl fun K9 h9 => ?_; simp (disch := first | exact dd | fail); (try simp (disch := first | exact de | fail) only [X7]); ((first | refine Ap ha ?_ | skip) <;> ((repeat (refine Yz ?_)); (first | refine h9 _ _ (Ys ?_)); clear h9 K9))) | refine Y6 ?_ | (refine Y8 fun K hK => ?_) | refine Y9 ?_ | (apply hK; clear hK K) | (refine Ye ?_; refine Yf ?_) | refine Yg ?_ | (simp only [X0, Nat.reduceBEq]) | clear hK K)
  exact .pure .bool
 ·exact .bool
theorem validA_call : PCall prog 165 [.str [49, 46, 51, 46, 54, 46, 49, 46, 52, 46, 49, 46, 53, 56, 56, 56, 56, 46, 49, 46, 49]] (.bool true) := by
 have ha := arcsA_call
 refine pcall_body func165 rfl call165 ?_ ?_
 rotate_left 1
 refine awp_slots (s' := (.str [49, 46, 51, 46, 54, 46, 49, 46, 52, 46, 49, 46, 53, 56, 56, 56, 56, 46, 49, 46, 49] : V) :: zJ 10) rfl ?_; dsimp only [zJ]
 ·repeat' (first | (refine Y0 rfl fun K9 h9 => ?_; simp (disch := first | exact dd | fail); (try simp (disch := first | exact de | fail) only [X7]); ((first | refine Ap ha ?_ | skip) <;> ((repeat (refine Yz ?_)); (first | refine h9 _ _ (Ys ?_)); clear h9 K9))) | refine Y6 ?_ | (refine Y8 fun K hK => ?_) | refine Y9 ?_ | (apply hK; clear hK K) | (refine Ye ?_; refine Yf ?_) | refine Yg ?_ | (simp only [X0, Nat.reduceBEq]) | clear hK K)
  exact .pure .bool
 ·exact .bool
theorem valid29_call (j : Nat) (hj : j < 10) : PCall prog 165 [.str [50, 46, 53, 46, 50, 57, 46, 50, 48 + UInt8.ofNat j]] (.bool true) := by
 have ha := arcs29_call j hj
 generalize ([50, 46, 53, 46, 50, 57, 46, 50, 48 + UInt8.ofNat j] : Bs) = B at *
 refine pcall_body func165 rfl call165 ?_ ?_
 rotate_left 1
 refine awp_slots (s' := (.str B : V) :: zJ 10) rfl ?_; dsimp only [zJ]
 ·repeat' (first | (refine Y0 rfl fun K9 h9 => ?_; simp (disch := first | exact dd | fail); (try simp (disch := first | exact de | fail) only [X7]); ((first | refine Ap ha ?_ | skip) <;> ((repeat (refine Yz ?_)); (first | refine h9 _ _ (Ys ?_)); clear h9 K9))) | refine Y6 ?_ | (refine Y8 fun K hK => ?_) | refine Y9 ?_ | (apply hK; clear hK K) | (refine Ye ?_; refine Yf ?_) | refine Yg ?_ | (simp only [X0, Nat.reduceBEq]) | clear hK K)
  exact .pure .bool
 ·exact .bool
end Go.Proofs.YtnpndfmbkmbhbaaGreatDoor
namespace Go.Proofs.YtnpndfmbkmbhbaaGreatDoor
open Go.Proofs.Tryz
open Go.VS Go.Der
set_option linter.all false
attribute [local irreducible] arun arunD arunU AWp aend
theorem decs_call (n : Nat) (h : 10 ≤ n) (hn : n < 1000000) (s : Bs) (hs : s.length ≤ 20) (hd : PCall prog 28 [.int .i64 ((n / 10 : Nat) : Int)] (.str s)) : PCall prog 28 [.int .i64 n] (.str (s ++ [48 + UInt8.ofNat (n % 10)])) := by
 rw [show ((n / 10 : Nat) : Int) = (n : Int) / 10 by omega] at hd
 have e2 : ¬ (n : Int) < 10 := by omega
 have e3 : ((48 : Int) + (n : Int) % 10).toNat = 48 + n % 10 := by omega
 refine pcall_body func28 rfl call28 ?_ ?_
 rotate_left 1
 refine awp_slots (s' := (.int .i64 n : V) :: zJ 19) rfl ?_; dsimp only [zJ]
 ·repeat' (first | ((first | refine Y0 rfl fun K9 h9 => ?_ | refine Y1 rfl rfl fun K9 h9 => ?_ | refine Y2 rfl rfl fun K9 h9 => ?_); simp (disch := first | exact dd | fail) [e2, e3]; (try simp (disch := first | exact de | fail) only [X7]); ((first | refine Ap hd ?_ | refine ⟨_, hd, ?_⟩ | skip) <;> ((repeat (refine Yz ?_)); (first | refine h9 _ _ (Ys ?_) | refine h9 _ _ (Yt ?_)); clear h9 K9))) | refine Y6 ?_ | refine Y7 ?_ | (refine Y8 fun K hK => ?_) | refine Y9 ?_ | (apply hK; clear hK K) | ((first | refine Yk (ops := #[_, _, _, _, _, _, _, _, _, _, _]) (m := 3) (by decide +kernel) [0, 0, 1, 0, 0, 0, 0, 0, 0, 0, 0] (by kernel_rfl) (by decide +kernel) ?_ | refine Yk (m := 3) (by decide +kernel) [] (by kernel_rfl) (by decide +kernel) ?_); simp only [List.replicate, XL]) | (refine Yb rfl ?_ ?_ <;> intro hcnd <;> (try simp at hcnd) <;> try exact dc) | refine Yc ?_ | (refine Ye ?_; refine Yf ?_) | refine Yg ?_ | (simp only [X0, Nat.reduceBEq]) | clear hK K)
  exact .pure .str
 ·exact .str
theorem dec2_call (k : Nat) (h : k < 100) (h2 : 10 ≤ k) : PCall prog 28 [.int .i64 k] (.str [48 + UInt8.ofNat (k / 10), 48 + UInt8.ofNat (k % 10)]) := by
 have := decs_call k h2 (by omega) _ (by simp) (dec_call (k / 10) (by omega))
 simpa using this
theorem pad2_call (k : Nat) (h : k < 100) : PCall prog 86 [.int .i64 k, .int .i64 2] (.str [48 + UInt8.ofNat (k / 10), 48 + UInt8.ofNat (k % 10)]) := by
 rcases Nat.lt_or_ge k 10 with hk | hk
 ·have hd := dec_call k hk
  have e1 : k / 10 = 0 := by omega
  have e2 : k % 10 = k := by omega
  rw [e1, e2, show 48 + UInt8.ofNat k = UInt8.ofNat (48 + k) by simp, show (48 : UInt8) + UInt8.ofNat 0 = 48 by rfl]
  generalize UInt8.ofNat (48 + k) = b at *
  refine pcall_body func86 rfl call86 ?_ ?_
  rotate_left 1
  refine awp_slots (s' := (.int .i64 k : V) :: (.int .i64 2 : V) :: zJ 13) rfl ?_; dsimp only [zJ]
  ·repeat' (first | (refine Y0 rfl fun K9 h9 => ?_; simp (disch := first | exact dd | fail); (try simp (disch := first | exact de | fail) only [X7]); ((first | refine Ap hd ?_ | skip) <;> ((repeat (refine Yz ?_)); (first | refine h9 _ _ (Ys ?_)); clear h9 K9))) | refine Y6 ?_ | (refine awp_rounds 3 fun KL hL => ?_) | (refine Y8 fun K hK => ?_) | refine Y9 ?_ | (apply hK; clear hK K) | refine Ya ?_ | (refine Yb rfl ?_ ?_ <;> intro hcnd <;> (try simp at hcnd) <;> try exact dc) | refine Yc ?_ | (refine Yd ?_; simp only [X0, Nat.reduceBEq]) | (refine Ye ?_; refine Yf ?_) | refine Yg ?_ | (simp only [X0, Nat.reduceBEq]) | clear hK K | (refine hL _ _ _ ?_) | (clear hK K) | (clear hL KL))
   exact .pure .str
  ·exact .str
 ·have hd := dec2_call k h hk
  generalize 48 + UInt8.ofNat (k / 10) = a at *
  generalize 48 + UInt8.ofNat (k % 10) = b at *
  refine pcall_body func86 rfl call86 ?_ ?_
  rotate_left 1
  refine awp_slots (s' := (.int .i64 k : V) :: (.int .i64 2 : V) :: zJ 13) rfl ?_; dsimp only [zJ]
  ·repeat' (first | (refine Y0 rfl fun K9 h9 => ?_; simp (disch := first | exact dd | fail); (try simp (disch := first | exact de | fail) only [X7]); ((first | refine Ap hd ?_ | skip) <;> ((repeat (refine Yz ?_)); (first | refine h9 _ _ (Ys ?_)); clear h9 K9))) | refine Y6 ?_ | (refine awp_rounds 3 fun KL hL => ?_) | (refine Y8 fun K hK => ?_) | refine Y9 ?_ | (apply hK; clear hK K) | refine Ya ?_ | (refine Yb rfl ?_ ?_ <;> intro hcnd <;> (try simp at hcnd) <;> try exact dc) | refine Yc ?_ | (refine Yd ?_; simp only [X0, Nat.reduceBEq]) | (refine Ye ?_; refine Yf ?_) | refine Yg ?_ | (simp only [X0, Nat.reduceBEq]) | clear hK K | (refine hL _ _ _ ?_) | (clear hK K) | (clear hL KL))
   exact .pure .str
  ·exact .str
theorem before50_call : PCall prog 131 [.int .i64 1950] (.int .i64 0) := by
 refine pcall_body func131 rfl call131 ?_ ?_
 rotate_left 1
 refine awp_slots (s' := (.int .i64 1950 : V) :: zJ 20) rfl ?_; dsimp only [zJ]
 ·repeat' (first | (refine Y0 rfl fun K9 h9 => ?_; simp (disch := first | exact dd | fail); (try simp (disch := first | exact de | fail) only [X7]); ((repeat (refine Yz ?_)); (first | refine h9 _ _ (Ys ?_)); clear h9 K9)) | refine Y6 ?_ | (refine Y8 fun K hK => ?_) | refine Y9 ?_ | (apply hK; clear hK K) | (refine Ye ?_; refine Yf ?_) | refine Yg ?_ | (simp only [X0, Nat.reduceBEq]) | clear hK K)
  exact .pure .int
 ·exact .int
theorem before51_call : PCall prog 131 [.int .i64 1951] (.int .i64 365) := by
 refine pcall_body func131 rfl call131 ?_ ?_
 rotate_left 1
 refine awp_slots (s' := (.int .i64 1951 : V) :: zJ 20) rfl ?_; dsimp only [zJ]
 ·repeat' (first | (refine Y0 rfl fun K9 h9 => ?_; simp (disch := first | exact dd | fail); (try simp (disch := first | exact de | fail) only [X7]); ((repeat (refine Yz ?_)); (first | refine h9 _ _ (Ys ?_)); clear h9 K9)) | refine Y6 ?_ | (refine Y8 fun K hK => ?_) | refine Y9 ?_ | (apply hK; clear hK K) | (refine Ye ?_; refine Yf ?_) | refine Yg ?_ | (simp only [X0, Nat.reduceBEq]) | clear hK K)
  exact .pure .int
 ·exact .int
theorem days1_call : PCall prog 132 [.int .i64 1950, .int .i64 1] (.int .i64 31) := by
 refine pcall_body func132 rfl call132 ?_ ?_
 rotate_left 1
 refine awp_slots (s' := (.int .i64 1950 : V) :: (.int .i64 1 : V) :: zJ 25) rfl ?_; dsimp only [zJ]
 ·repeat' (first | ((first | refine Yl rfl fun K9 h9 => ?_ | (refine Ym ?_ ?_; (focus (simp; done)); intro K9 h9)); simp (disch := first | exact dd | fail); (try simp (disch := first | exact de | fail) only [X7]); ((repeat (refine Yz ?_)); (first | refine h9 _ _ (Yp ?_)); clear h9 K9)) | refine Yo ?_ | (refine Y8 fun K hK => ?_) | refine Yq ?_ | (apply hK; clear hK K) | (refine Yb rfl ?_ ?_ <;> intro hcnd <;> (try simp at hcnd) <;> try exact dc) | refine Yc ?_ | (refine Ye ?_; refine Yf ?_) | (refine Yn ?_ ?_; (focus (simp; done)); refine Yp ?_) | refine Yg ?_ | (simp only [X0, Nat.reduceBEq]) | clear hK K)
  exact .pure .int
 ·exact .int
theorem civil_call (t : Nat) (ht : t < 10) : PCall prog 85 [.int .i64 t] (.tup [.agg [.int .i64 1950, .int .i64 1, .int .i64 1, .int .i64 0, .int .i64 0, .int .i64 t], .int .i64 0]) := by
 have g1 : ¬ (t : Int) < 0 := by omega
 have g2 : ¬ 254033452799 < (t : Int) := by omega
 have g3 : (t : Int) / 86400 = 0 := by omega
 have g4 : (t : Int) / 3600 = 0 := by omega
 have g5 : (t : Int) / 60 = 0 := by omega
 have g6 : (t : Int) % 60 = t := by omega
 refine pcall_body func85 rfl call85 ?_ ?_
 rotate_left 1
 refine awp_slots (s' := (.int .i64 t : V) :: zJ 54) rfl ?_; dsimp only [zJ]
 ·repeat' (first | ((first | refine Y0 rfl fun K9 h9 => ?_ | (refine Y3 ?_ ?_; (focus (simp [g1, g2, g3, g4, g5, g6]; done)); intro K9 h9)); simp (disch := first | exact dd | fail) [g1, g2, g3, g4, g5, g6]; (try simp (disch := first | exact de | fail) only [X7]); ((first | refine Ap before50_call ?_ | refine Ap before51_call ?_ | refine Ap days1_call ?_ | skip) <;> ((repeat (refine Yz ?_)); (first | refine h9 _ _ (Ys ?_)); clear h9 K9))) | refine Y6 ?_ | (refine awp_rounds 3 fun KL hL => ?_) | (refine Y8 fun K hK => ?_) | refine Y9 ?_ | (apply hK; clear hK K) | refine Ya ?_ | (refine Yb rfl ?_ ?_ <;> intro hcnd <;> (try simp at hcnd) <;> try exact dc) | refine Yc ?_ | (refine Yd ?_; simp only [X0, Nat.reduceBEq]) | (refine Ye ?_; refine Yf ?_) | (refine Yh ?_ ?_; (focus (simp [g1, g2, g3, g4, g5, g6]; done)); refine Ys ?_) | refine Yg ?_ | (simp only [X0, Nat.reduceBEq]) | clear hK K | (refine hL _ _ _ ?_) | (clear hK K) | (clear hL KL))
  simp
  exact .pure (by simp)
 ·exact .tup (by simp)
theorem etime_call (t : Nat) (ht : t < 10) : PCall prog 45 [.int .i64 t] (.tup [.str (timeB t), .int .i64 0]) := by
 have hc := civil_call t ht
 have p1 : PCall prog 86 [.int .i64 1, .int .i64 2] (.str [48, 49]) := pad2_call 1 (by omega)
 have p0 : PCall prog 86 [.int .i64 0, .int .i64 2] (.str [48, 48]) := pad2_call 0 (by omega)
 have p50 : PCall prog 86 [.int .i64 50, .int .i64 2] (.str [53, 48]) := pad2_call 50 (by omega)
 have pt : PCall prog 86 [.int .i64 t, .int .i64 2] (.str [48, 48 + UInt8.ofNat t]) := by
  have := pad2_call t (by omega)
  rw [show t / 10 = 0 by omega, show t % 10 = t by omega] at this
  exact this
 have hw := wrap_call 23 [timeC t] ⟨by omega, by omega, by omega⟩ (by simp) (by simp [timeC])
 have ht2 : ([timeC t] : List Bs).flatten = timeC t := by simp
 rw [ht2] at hw
 unfold timeB
 generalize wr 23 (timeC t) = R at *
 unfold timeC at hw
 rw [Int.toNat_natCast] at hw
 generalize 48 + UInt8.ofNat t = b at *
 refine pcall_body func45 rfl call45 ?_ ?_
 rotate_left 1
 refine awp_slots (s' := (.int .i64 t : V) :: zJ 56) rfl ?_; dsimp only [zJ]
 ·repeat' (first | ((first | refine Y0 rfl fun K9 h9 => ?_ | refine Y1 rfl rfl fun K9 h9 => ?_ | refine Y2 rfl rfl fun K9 h9 => ?_); simp (disch := first | exact dd | fail); (try simp (disch := first | exact de | fail) only [X7]); ((first | refine Ap hc ?_ | refine ⟨_, hc, ?_⟩ | refine Ap p1 ?_ | refine ⟨_, p1, ?_⟩ | refine Ap p0 ?_ | refine ⟨_, p0, ?_⟩ | refine Ap p50 ?_ | refine ⟨_, p50, ?_⟩ | refine Ap pt ?_ | refine ⟨_, pt, ?_⟩ | refine acall_view hw ⟨.pure .int, view_row rfl (by simp) (by simp), trivial⟩ (.tup (by simp)) ?_ | skip) <;> ((repeat (refine Yz ?_)); (first | refine h9 _ _ (Ys ?_) | refine h9 _ _ (Yt ?_)); clear h9 K9))) | refine Y6 ?_ | refine Y7 ?_ | (refine Y8 fun K hK => ?_) | refine Y9 ?_ | (apply hK; clear hK K) | ((first | refine Yk (ops := #[_, _, _, _, _, _, _, _, _, _, _, _, _, _, _, _, _, _, _, _, _]) (m := 0) (by decide +kernel) [0, 0, 1, 0, 0, 1, 0, 0, 0, 1, 0, 0, 0, 1, 0, 0, 0, 1, 0, 0, 0] (by kernel_rfl) (by decide +kernel) ?_ | refine Yk (m := 0) (by decide +kernel) [] (by kernel_rfl) (by decide +kernel) ?_); simp only [List.replicate, XL]) | (refine Yb rfl ?_ ?_ <;> intro hcnd <;> (try simp at hcnd) <;> try exact dc) | refine Yc ?_ | (refine Ye ?_; refine Yf ?_) | refine Yg ?_ | (simp only [X0, Nat.reduceBEq]) | clear hK K)
  simp
  exact .pure (by simp)
 ·exact .tup (by simp)
end Go.Proofs.YtnpndfmbkmbhbaaGreatDoor
namespace Go.Der
def digS (B : Bs) : Int := B.foldl (fun v c => 10 * v + ((c.toNat : Int) - 48)) 0
def Dig (B : Bs) : Prop := ∀ c ∈ B, 48 ≤ c.toNat ∧ c.toNat ≤ 57
theorem digS_take (B : Bs) (i : Nat) (h : i < B.length) : digS (B.take (i + 1)) = 10 * digS (B.take i) + ((B[i].toNat : Int) - 48) := by
 unfold digS
 rw [List.take_succ_eq_append_getElem h, List.foldl_append]; rfl
theorem digS_lt (B : Bs) (hB : Dig B) : ∀ i, i ≤ B.length → 0 ≤ digS (B.take i) ∧ digS (B.take i) < 10 ^ i
 | 0, _ => by simp [digS]
 | i + 1, h => by
  have ih := digS_lt B hB i (by omega)
  have hc := hB _ (List.getElem_mem (show i < B.length by omega))
  rw [digS_take B i (by omega)]
  have : (10 : Int) ^ (i + 1) = 10 * 10 ^ i := by rw [Int.pow_succ]; omega
  rw [this]
  constructor <;> omega
theorem digS_lt2 (B : Bs) (hB : Dig B) (hl : B.length ≤ 15) (i : Nat) (hi : i ≤ B.length) : 0 ≤ digS (B.take i) ∧ digS (B.take i) < 1000000000000000 := by
 have h := digS_lt B hB i hi
 have hp : (10 : Nat) ^ i ≤ 10 ^ 15 := Nat.pow_le_pow_right (by omega) (by omega)
 have : (10 : Int) ^ i ≤ 10 ^ 15 := by exact_mod_cast hp
 have e : (10 : Int) ^ 15 = 1000000000000000 := by decide
 omega
end Go.Der
namespace Go.Proofs.YtnpndfmbkmbhbaaGreatDoor
open Go.Proofs.Tryz
open Go.VS Go.Der
set_option linter.all false
attribute [local irreducible] arun arunD arunU AWp aend
theorem tdigits_call (B : Bs) (hB : Dig B) (hl : B.length ≤ 15) : PCall prog 174 [.str B] (.int .i64 (digS B)) := by
 refine pcall_body func174 rfl call174 ?_ ?_
 rotate_left 1
 refine awp_slots (s' := (.str B : V) :: zJ 29) rfl ?_; dsimp only [zJ]
 ·repeat' (first | ((first | refine Y0 rfl fun K9 h9 => ?_ | (refine Y3 ?_ ?_; (focus (simp; done)); intro K9 h9)); simp (disch := first | exact dd | fail); (try simp (disch := first | exact de | fail) only [X7]); ((repeat (refine Yz ?_)); (first | refine h9 _ _ (Ys ?_)); clear h9 K9)) | refine Y6 ?_ | (refine Y8 fun K hK => ?_) | refine Y9 ?_ | (apply hK; clear hK K) | refine Ya ?_ | (refine Yb rfl ?_ ?_ <;> intro hcnd <;> (try simp at hcnd) <;> try exact dc) | refine Yc ?_ | (refine Yd ?_; simp only [X0, Nat.reduceBEq]) | (refine Ye ?_; refine Yf ?_) | (refine Yh ?_ ?_; (focus (simp; done)); refine Ys ?_) | refine Yg ?_ | (simp only [X0, Nat.reduceBEq]) | clear hK K)
  refine awp_countU (fun i => (zN 2 (some V.junk :: some (V.int .i64 (digS (B.take i))) :: some (V.int .i64 i) :: zS 25 []))) (fun i => []) B.length ?_ fun i hi KL hL => ?_
  ·dsimp only [ups, zN, zS]
   exact Le.drop (by simp [digS])
  dsimp only [ups, zN, zS]
  have hd := digS_lt2 B hB hl i hi
  rcases Nat.lt_or_ge i B.length with hi | hi
  ·have hs := digS_take B i hi
   have hc := hB _ (List.getElem_mem hi)
   obtain ⟨x, hx⟩ : ∃ x, B[i] = x := ⟨_, rfl⟩
   rw [hx] at hs hc
   have g1 : ¬ (x.toNat : Int) < 48 := by omega
   have g2 : ¬ 57 < (x.toNat : Int) := by omega
   generalize digS (B.take i) = v at *
   repeat' (first | ((first | refine Y0 rfl fun K9 h9 => ?_ | (refine Y3 ?_ ?_; (focus (simp [hx, g1, g2]; done)); intro K9 h9)); simp (disch := first | exact dd | fail) [hx, g1, g2]; (try simp (disch := first | exact de | fail) only [X7]); ((repeat (refine Yz ?_)); (first | refine h9 _ _ (Ys ?_)); clear h9 K9)) | refine Y6 ?_ | (refine Y8 fun K hK => ?_) | refine Y9 ?_ | (apply hK; clear hK K) | refine Ya ?_ | (refine Yb rfl ?_ ?_ <;> intro hcnd <;> (try simp at hcnd) <;> try exact dc) | refine Yc ?_ | (refine Yd ?_; simp only [X0, Nat.reduceBEq]) | (refine Ye ?_; refine Yf ?_) | (refine Yh ?_ ?_; (focus (simp [hx, g1, g2]; done)); refine Ys ?_) | refine Yg ?_ | (simp only [X0, Nat.reduceBEq]) | clear hK K)
   refine hL _ _ hi ?_
   exact Le.drop (by dsimp only [ups, zN, zS]; simp [hs])
  obtain rfl : i = B.length := by omega
  rw [List.take_length] at *
  repeat' (first | ((first | refine Y0 rfl fun K9 h9 => ?_ | (refine Y3 ?_ ?_; (focus (simp; done)); intro K9 h9)); simp (disch := first | exact dd | fail); (try simp (disch := first | exact de | fail) only [X7]); ((repeat (refine Yz ?_)); (first | refine h9 _ _ (Ys ?_)); clear h9 K9)) | refine Y6 ?_ | (refine Y8 fun K hK => ?_) | refine Y9 ?_ | (apply hK; clear hK K) | refine Ya ?_ | (refine Yb rfl ?_ ?_ <;> intro hcnd <;> (try simp at hcnd) <;> try exact dc) | refine Yc ?_ | (refine Yd ?_; simp only [X0, Nat.reduceBEq]) | (refine Ye ?_; refine Yf ?_) | (refine Yh ?_ ?_; (focus (simp; done)); refine Ys ?_) | refine Yg ?_ | (simp only [X0, Nat.reduceBEq]) | clear hK K)
  exact .pure .int
 ·exact .int
theorem seconds_call (t : Nat) (ht : t < 10) : PCall prog 175 [.agg [.int .i64 1950, .int .i64 1, .int .i64 1, .int .i64 0, .int .i64 0, .int .i64 t]] (.tup [.int .i64 t, .int .i64 0]) := by
 have g1 : ¬ (t : Int) < 0 := by omega
 have g2 : ¬ 59 < (t : Int) := by omega
 refine pcall_body func175 rfl call175 ?_ ?_
 rotate_left 1
 refine awp_slots (s' := (.agg [.int .i64 1950, .int .i64 1, .int .i64 1, .int .i64 0, .int .i64 0, .int .i64 t] : V) :: zJ 100) rfl ?_; dsimp only [zJ]
 ·repeat' (first | ((first | refine Yl rfl fun K9 h9 => ?_ | refine Y1 rfl rfl fun K9 h9 => ?_ | refine Y2 rfl rfl fun K9 h9 => ?_ | (refine Ym ?_ ?_; (focus (simp [g1, g2]; done)); intro K9 h9) | ((first | refine Y4 rfl ?_ ?_ | refine Y5 rfl ?_ ?_); (focus (simp [g1, g2]; done)); intro K9 h9)); simp (disch := first | exact dd | fail) [g1, g2]; (try simp (disch := first | exact de | fail) only [X7]); ((first | refine Ap before50_call ?_ | refine Ap days1_call ?_ | skip) <;> ((repeat (refine Yz ?_)); (first | refine h9 _ _ (Yp ?_) | refine h9 _ _ (Yt ?_)); clear h9 K9))) | refine Yo ?_ | refine Y7 ?_ | (refine awp_rounds 3 fun KL hL => ?_) | (refine Y8 fun K hK => ?_) | refine Yq ?_ | (apply hK; clear hK K) | ((first | refine Yk (m := 0) (by decide +kernel) [] (by kernel_rfl) (by decide +kernel) ?_); simp only [List.replicate, XL]) | refine Ya ?_ | (refine Yb rfl ?_ ?_ <;> intro hcnd <;> (try simp at hcnd) <;> try exact dc) | refine Yc ?_ | (refine Yd ?_; simp only [X0, Nat.reduceBEq]) | (refine Ye ?_; refine Yf ?_) | (refine Yn ?_ ?_; (focus (simp [g1, g2]; done)); refine Yp ?_) | ((first | refine Yi rfl ?_ ?_ | refine Yj rfl ?_ ?_); (focus (simp [g1, g2]; done)); refine Yt ?_) | refine Yg ?_ | (simp only [X0, Nat.reduceBEq]) | clear hK K | (refine hL _ _ _ ?_) | (clear hK K) | (clear hL KL))
  exact .pure (by simp)
 ·exact .tup (by simp)
theorem dtime_call (t : Nat) (ht : t < 10) : PCall prog 144 [.int .i64 23, .str (timeC t)] (.tup [.int .i64 t, .int .i64 0]) := by
 have hb : (48 + UInt8.ofNat t).toNat = 48 + t := by simp [UInt8.toNat_add, UInt8.toNat_ofNat']; omega
 have hs := seconds_call t ht
 unfold timeC
 rw [Int.toNat_natCast]
 generalize 48 + UInt8.ofNat t = b at *
 have hd12 := tdigits_call [53, 48, 48, 49, 48, 49, 48, 48, 48, 48, 48, b] (by unfold Dig; simp; omega) (by simp)
 have e12 : digS [53, 48, 48, 49, 48, 49, 48, 48, 48, 48, 48, b] = 500101000000 + t := by simp [digS]; omega
 rw [e12] at hd12
 have hd50 : PCall prog 174 [.str [53, 48]] (.int .i64 50) := tdigits_call [53, 48] (by unfold Dig; simp) (by simp)
 have hd1 : PCall prog 174 [.str [48, 49]] (.int .i64 1) := tdigits_call [48, 49] (by unfold Dig; simp) (by simp)
 have hd0 : PCall prog 174 [.str [48, 48]] (.int .i64 0) := tdigits_call [48, 48] (by unfold Dig; simp) (by simp)
 have hdt := tdigits_call [48, b] (by unfold Dig; simp; omega) (by simp)
 have et : digS [48, b] = t := by simp [digS]; omega
 rw [et] at hdt
 have g : ¬ (500101000000 + (t : Int)) < 0 := by omega
 refine pcall_body func144 rfl call144 ?_ ?_
 rotate_left 1
 refine awp_slots (s' := (.int .i64 23 : V) :: (.str [53, 48, 48, 49, 48, 49, 48, 48, 48, 48, 48, b, 90] : V) :: zJ 100) rfl ?_; dsimp only [zJ]
 ·repeat' (first | ((first | refine Yl rfl fun K9 h9 => ?_ | refine Y1 rfl rfl fun K9 h9 => ?_ | refine Y2 rfl rfl fun K9 h9 => ?_ | (refine Ym ?_ ?_; (focus (simp [g]; done)); intro K9 h9) | ((first | refine Y4 rfl ?_ ?_ | refine Y5 rfl ?_ ?_); (focus (simp [g]; done)); intro K9 h9)); simp (disch := first | exact dd | fail) [g]; (try simp (disch := first | exact de | fail) only [X7]); ((first | refine Ap hd12 ?_ | refine ⟨_, hd12, ?_⟩ | refine Ap hd50 ?_ | refine ⟨_, hd50, ?_⟩ | refine Ap hd1 ?_ | refine ⟨_, hd1, ?_⟩ | refine Ap hd0 ?_ | refine ⟨_, hd0, ?_⟩ | refine Ap hdt ?_ | refine ⟨_, hdt, ?_⟩ | refine Ap hs ?_ | refine ⟨_, hs, ?_⟩ | skip) <;> ((repeat (refine Yz ?_)); (first | refine h9 _ _ (Yp ?_) | refine h9 _ _ (Yt ?_)); clear h9 K9))) | refine Yo ?_ | refine Y7 ?_ | (refine Y8 fun K hK => ?_) | refine Yq ?_ | (apply hK; clear hK K) | ((first | refine Yk (ops := #[_, _, _, _, _, _, _, _, _, _, _, _, _, _, _, _, _, _, _, _, _, _, _, _, _, _, _, _, _, _, _, _, _, _, _, _, _, _, _, _, _]) (m := 0) (by decide +kernel) [0, 0, 0, 0, 0, 0, 1, 0, 0, 0, 0, 0, 0, 1, 0, 0, 0, 0, 0, 0, 1, 0, 0, 0, 0, 0, 0, 1, 0, 0, 0, 0, 0, 0, 1, 0, 1, 0, 0, 0, 0] (by kernel_rfl) (by decide +kernel) ?_ | refine Yk (m := 0) (by decide +kernel) [] (by kernel_rfl) (by decide +kernel) ?_); simp only [List.replicate, XL]) | refine Ya ?_ | (refine Yb rfl ?_ ?_ <;> intro hcnd <;> (try simp at hcnd) <;> try exact dc) | refine Yc ?_ | (refine Ye ?_; refine Yf ?_) | (refine Yn ?_ ?_; (focus (simp [g]; done)); refine Yp ?_) | ((first | refine Yi rfl ?_ ?_ | refine Yj rfl ?_ ?_); (focus (simp [g]; done)); refine Yt ?_) | refine Yg ?_ | (simp only [X0, Nat.reduceBEq]) | clear hK K)
  exact .pure (by simp)
 ·exact .tup (by simp)
end Go.Proofs.YtnpndfmbkmbhbaaGreatDoor
