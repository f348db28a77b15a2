/-
 ENCODINGS: lists and entries checked by the reference.
 Conditions: none.
-/
import Derived.Test.YtnpndfmbkmbhbaaGreatDoorHj
set_option maxRecDepth 100000
set_option maxHeartbeats 32000000
set_option linter.all false
namespace Go.Proofs.YtnpndfmbkmbhbaaGreatDoor
open Go.Proofs.Tryz
open Go.VS Go.Der Go.Stp
attribute [local irreducible] arun arunD arunU AWp aend
theorem zs0_call  : PCall prog 128 [.agg [.sl 0 [], .bool false, .bool false, .int .i64 0, .bool false]] (.bool true) := by
 refine pcall_body func128 rfl call128 ?_ ?_
 rotate_left 1
 refine awp_slots (s' := (.agg [.sl 0 [], .bool false, .bool false, .int .i64 0, .bool false] : V) :: zJ 26) rfl ?_; dsimp only [zJ]
 ·repeat' (first | refine ZrU ?_ | refine ZtU ?_ | refine Y8 fun K hK => ?_ | (apply hK; clear hK K) | refine ZoU ?_ | refine Zx ?_ | clear hK K)
  exact .pure .bool
 ·exact .bool
theorem zsR_call (r : Int) (hr : ¬ r = 0) : PCall prog 128 [.agg [.sl 0 [], .bool false, .bool false, .int .i64 r, .bool false]] (.bool false) := by
 have g : ¬ r = 0 := hr
 refine pcall_body func128 rfl call128 ?_ ?_
 rotate_left 1
 refine awp_slots (s' := (.agg [.sl 0 [], .bool false, .bool false, .int .i64 r, .bool false] : V) :: zJ 26) rfl ?_; dsimp only [zJ]
 ·repeat' (first | ((first | refine ZuU ?_ | (refine ZvU ?_ ?_; (focus (simp [g]; done)))); intro K9 h9; simp (disch := first | exact dd | fail) [g]; refine Zm ?_; refine ZfU h9 ?_; clear h9 K9) | refine ZtU ?_ | refine Y8 fun K hK => ?_ | (apply hK; clear hK K) | (refine ZnU ?_ ?_; (focus (simp [g]; done)); refine ZsU ?_) | refine Zx ?_ | clear hK K)
  exact .pure .bool
 ·exact .bool
theorem zsI_call  : PCall prog 128 [.agg [.sl 0 [], .bool false, .bool false, .int .i64 0, .bool true]] (.bool false) := by
 refine pcall_body func128 rfl call128 ?_ ?_
 rotate_left 1
 refine awp_slots (s' := (.agg [.sl 0 [], .bool false, .bool false, .int .i64 0, .bool true] : V) :: zJ 26) rfl ?_; dsimp only [zJ]
 ·repeat' (first | refine ZrU ?_ | refine ZtU ?_ | refine Y8 fun K hK => ?_ | (apply hK; clear hK K) | refine ZoU ?_ | refine Zx ?_ | clear hK K)
  exact .pure .bool
 ·exact .bool
theorem checkNames0_call  : PCall prog 129 [.sl 0 []] (.int .i64 0) := by
 refine pcall_body func129 rfl call129 ?_ ?_
 rotate_left 1
 refine awp_slots (s' := (.sl 0 [] : V) :: zJ 20) rfl ?_; dsimp only [zJ]
 ·repeat' (first | refine Zq ?_ | refine Zt ?_ | (refine awp_rounds 2 fun KL hL => ?_) | refine Y8 fun K hK => ?_ | (apply hK; clear hK K) | (refine Yb rfl ?_ ?_ <;> intro hcnd <;> (try simp at hcnd) <;> try exact dc) | refine Zx ?_ | clear hK K | (refine hL _ _ _ ?_) | (clear hK K) | (clear hL KL))
  exact .pure .int
 ·exact .int
theorem checkPoints0_call  : PCall prog 80 [.sl 0 []] (.int .i64 0) := by
 refine pcall_body func80 rfl call80 ?_ ?_
 rotate_left 1
 refine awp_slots (s' := (.sl 0 [] : V) :: zJ 60) rfl ?_; dsimp only [zJ]
 ·repeat' (first | refine Zr ?_ | refine Zt ?_ | (refine awp_rounds 2 fun KL hL => ?_) | refine Y8 fun K hK => ?_ | (apply hK; clear hK K) | (refine Yb rfl ?_ ?_ <;> intro hcnd <;> (try simp at hcnd) <;> try exact dc) | refine Zo ?_ | refine Zx ?_ | clear hK K | (refine hL _ _ _ ?_) | (clear hK K) | (clear hL KL))
  exact .pure .int
 ·exact .int
theorem andn510 : ∀ r : Nat, r < 512 → r % 2 = 0 → bits .andNot .i64 (r : Int) 510 = 0 := by decide +kernel
theorem cscope0_call (raw tbs sig : Bs) (this next num base : Int) (n : Nat) (B E : List V) : PCall prog 79 [.agg [.str raw, .str tbs, .sl 1 B, .int .i64 this, .int .i64 next, .int .i64 num, .int .i64 base, .str [], .bool false, .sl 0 [], .bool false, .bool false, .int .i64 0, .bool false, .sl 0 [], .sl n E, .str sig]] (.int .i64 0) := by
 have hz := zs0_call
 refine pcall_body func79 rfl call79 ?_ ?_
 rotate_left 1
 refine awp_slots (s' := (.agg [.str raw, .str tbs, .sl 1 B, .int .i64 this, .int .i64 next, .int .i64 num, .int .i64 base, .str [], .bool false, .sl 0 [], .bool false, .bool false, .int .i64 0, .bool false, .sl 0 [], .sl n E, .str sig] : V) :: zJ 28) rfl ?_; dsimp only [zJ]
 ·repeat' (first | ((first | refine ZuU ?_ | (refine ZvU ?_ ?_; (focus (simp; done)))); intro K9 h9; refine Zd ?_; ((first | refine Ap hz ?_ | skip) <;> (refine ZfU h9 ?_; clear h9 K9))) | refine ZtU ?_ | refine Y8 fun K hK => ?_ | (apply hK; clear hK K) | (refine Yb rfl ?_ ?_ <;> intro hcnd <;> (try simp at hcnd) <;> try exact dc) | refine ZoU ?_ | refine Zx ?_ | clear hK K)
  exact .pure .int
 ·exact .int
theorem cscopeR_call (raw tbs sig : Bs) (this next num base : Int) (n : Nat) (B E : List V) (r : Nat) (h0 : ¬ r = 0) (h1 : r < 512) (h2 : r % 2 = 0) : PCall prog 79 [.agg [.str raw, .str tbs, .sl 1 B, .int .i64 this, .int .i64 next, .int .i64 num, .int .i64 base, .str [], .bool true, .sl 0 [], .bool false, .bool false, .int .i64 (r : Int), .bool false, .sl 0 [], .sl n E, .str sig]] (.int .i64 0) := by
 have hz := zsR_call r (by omega)
 have hn := checkNames0_call
 have ha := andn510 r h1 h2
 refine pcall_body func79 rfl call79 ?_ ?_
 rotate_left 1
 refine awp_slots (s' := (.agg [.str raw, .str tbs, .sl 1 B, .int .i64 this, .int .i64 next, .int .i64 num, .int .i64 base, .str [], .bool true, .sl 0 [], .bool false, .bool false, .int .i64 (r : Int), .bool false, .sl 0 [], .sl n E, .str sig] : V) :: zJ 28) rfl ?_; dsimp only [zJ]
 ·repeat' (first | ((first | refine ZuU ?_ | (refine ZvU ?_ ?_; (focus (simp [ha]; done)))); intro K9 h9; simp (disch := first | exact dd | fail) [ha]; refine Zm ?_; ((first | refine Ap hz ?_ | refine Ap hn ?_ | skip) <;> (refine ZfU h9 ?_; clear h9 K9))) | refine ZtU ?_ | refine Y8 fun K hK => ?_ | (apply hK; clear hK K) | (refine Yb rfl ?_ ?_ <;> intro hcnd <;> (try simp at hcnd) <;> try exact dc) | (refine ZnU ?_ ?_; (focus (simp [ha]; done)); refine ZsU ?_) | refine Zx ?_ | clear hK K)
  exact .pure .int
 ·exact .int
theorem cscopeI_call (raw tbs sig : Bs) (this next num base : Int) (n : Nat) (B E : List V) : PCall prog 79 [.agg [.str raw, .str tbs, .sl 1 B, .int .i64 this, .int .i64 next, .int .i64 num, .int .i64 base, .str [], .bool true, .sl 0 [], .bool false, .bool false, .int .i64 0, .bool true, .sl 0 [], .sl n E, .str sig]] (.int .i64 0) := by
 have hz := zsI_call
 have hn := checkNames0_call
 have ha : bits .andNot .i64 0 510 = 0 := by decide
 refine pcall_body func79 rfl call79 ?_ ?_
 rotate_left 1
 refine awp_slots (s' := (.agg [.str raw, .str tbs, .sl 1 B, .int .i64 this, .int .i64 next, .int .i64 num, .int .i64 base, .str [], .bool true, .sl 0 [], .bool false, .bool false, .int .i64 0, .bool true, .sl 0 [], .sl n E, .str sig] : V) :: zJ 28) rfl ?_; dsimp only [zJ]
 ·repeat' (first | ((first | refine ZuU ?_ | (refine ZvU ?_ ?_; (focus (simp [ha]; done)))); intro K9 h9; simp (disch := first | exact dd | fail) [ha]; refine Zm ?_; ((first | refine Ap hz ?_ | refine Ap hn ?_ | skip) <;> (refine ZfU h9 ?_; clear h9 K9))) | refine ZtU ?_ | refine Y8 fun K hK => ?_ | (apply hK; clear hK K) | (refine Yb rfl ?_ ?_ <;> intro hcnd <;> (try simp at hcnd) <;> try exact dc) | (refine ZnU ?_ ?_; (focus (simp [ha]; done)); refine ZsU ?_) | refine Zx ?_ | clear hK K)
  exact .pure .int
 ·exact .int
theorem reason_call (r : Int) (hr : r = 0 ∨ r = 1 ∨ r = 6 ∨ r = 8) : PCall prog 130 [.int .i64 r] (.bool true) := by
 rcases hr with rfl | rfl | rfl | rfl
 ·refine pcall_body func130 rfl call130 ?_ ?_
  rotate_left 1
  refine awp_slots (s' := (.int .i64 0 : V) :: zJ 16) rfl ?_; dsimp only [zJ]
  ·repeat' (first | refine ZrU ?_ | refine ZtU ?_ | refine Y8 fun K hK => ?_ | (apply hK; clear hK K) | refine ZoU ?_ | refine Zx ?_ | clear hK K)
   exact .pure .bool
  ·exact .bool
 ·refine pcall_body func130 rfl call130 ?_ ?_
  rotate_left 1
  refine awp_slots (s' := (.int .i64 1 : V) :: zJ 16) rfl ?_; dsimp only [zJ]
  ·repeat' (first | refine ZrU ?_ | refine ZtU ?_ | refine Y8 fun K hK => ?_ | (apply hK; clear hK K) | refine ZoU ?_ | refine Zx ?_ | clear hK K)
   exact .pure .bool
  ·exact .bool
 ·refine pcall_body func130 rfl call130 ?_ ?_
  rotate_left 1
  refine awp_slots (s' := (.int .i64 6 : V) :: zJ 16) rfl ?_; dsimp only [zJ]
  ·repeat' (first | refine ZrU ?_ | refine ZtU ?_ | refine Y8 fun K hK => ?_ | (apply hK; clear hK K) | refine ZoU ?_ | refine Zx ?_ | clear hK K)
   exact .pure .bool
  ·exact .bool
 ·refine pcall_body func130 rfl call130 ?_ ?_
  rotate_left 1
  refine awp_slots (s' := (.int .i64 8 : V) :: zJ 16) rfl ?_; dsimp only [zJ]
  ·repeat' (first | refine ZrU ?_ | refine ZtU ?_ | refine Y8 fun K hK => ?_ | (apply hK; clear hK K) | refine ZoU ?_ | refine Zx ?_ | clear hK K)
   exact .pure .bool
  ·exact .bool
theorem chkEntry_call (raw tbs sig : Bs) (this next num base rea s r : Int) (has ind : Bool) (A B : List V) (hs : 1 ≤ s ∧ s ≤ 100) (hr : r = 0 ∨ r = 1 ∨ r = 6 ∨ r = 8) (hb : r = 8 → ¬ base = -1) (hcn : PCall prog 78 [.agg [.sl 1 A]] (.int .i64 0)) (hm : ind = false → PCall prog 88 [.agg [.sl 1 A], .agg [.sl 1 B]] (.bool true)) : PCall prog 81 [.agg [.str raw, .str tbs, .sl 1 B, .int .i64 this, .int .i64 next, .int .i64 num, .int .i64 base, .str [], .bool has, .sl 0 [], .bool false, .bool false, .int .i64 rea, .bool ind, .sl 0 [], .sl 1 [.int .i64 s, .int .i64 0, .int .i64 r, .int .i64 (-1), .sl 1 A], .str sig], .int .i64 0] (.int .i64 0) := by
 have hrr := reason_call r hr
 have g1 : ¬ s < 1 := by omega
 have g2 : ¬ 4611686018427387904 < s := by omega
 by_cases h8 : r = 8
 ·have hb := hb h8
  subst h8
  cases ind
  ·have hm := hm rfl
   refine pcall_body func81 rfl call81 ?_ ?_
   rotate_left 1
   refine awp_slots (s' := (.agg [.str raw, .str tbs, .sl 1 B, .int .i64 this, .int .i64 next, .int .i64 num, .int .i64 base, .str [], .bool has, .sl 0 [], .bool false, .bool false, .int .i64 rea, .bool false, .sl 0 [], .sl 1 [.int .i64 s, .int .i64 0, .int .i64 8, .int .i64 (-1), .sl 1 A], .str sig] : V) :: (.int .i64 0 : V) :: zJ 99) rfl ?_; dsimp only [zJ]
   ·repeat' (first | ((first | refine ZuU ?_ | (refine ZvU ?_ ?_; (focus (simp [g1, g2, hb]; done)))); intro K9 h9; simp (disch := first | exact dd | fail) [g1, g2, hb]; refine Zm ?_; ((first | refine Ap hrr ?_ | refine Ap hcn ?_ | refine Ap hm ?_ | skip) <;> (refine ZfU h9 ?_; clear h9 K9))) | refine ZtU ?_ | (refine awp_rounds 2 fun KL hL => ?_) | refine Y8 fun K hK => ?_ | (apply hK; clear hK K) | (refine Zk 0 [] ?_; refine Zl ?_) | (refine Yb rfl ?_ ?_ <;> intro hcnd <;> (try simp at hcnd) <;> try exact dc) | (refine ZnU ?_ ?_; (focus (simp [g1, g2, hb]; done)); refine ZsU ?_) | refine Zx ?_ | clear hK K | (refine hL _ _ _ ?_) | (clear hK K) | (clear hL KL))
    exact .pure .int
   ·exact .int
  ·refine pcall_body func81 rfl call81 ?_ ?_
   rotate_left 1
   refine awp_slots (s' := (.agg [.str raw, .str tbs, .sl 1 B, .int .i64 this, .int .i64 next, .int .i64 num, .int .i64 base, .str [], .bool has, .sl 0 [], .bool false, .bool false, .int .i64 rea, .bool true, .sl 0 [], .sl 1 [.int .i64 s, .int .i64 0, .int .i64 8, .int .i64 (-1), .sl 1 A], .str sig] : V) :: (.int .i64 0 : V) :: zJ 99) rfl ?_; dsimp only [zJ]
   ·repeat' (first | ((first | refine ZuU ?_ | (refine ZvU ?_ ?_; (focus (simp [g1, g2, hb]; done)))); intro K9 h9; simp (disch := first | exact dd | fail) [g1, g2, hb]; refine Zm ?_; ((first | refine Ap hrr ?_ | refine Ap hcn ?_ | skip) <;> (refine ZfU h9 ?_; clear h9 K9))) | refine ZtU ?_ | (refine awp_rounds 2 fun KL hL => ?_) | refine Y8 fun K hK => ?_ | (apply hK; clear hK K) | (refine Zk 0 [] ?_; refine Zl ?_) | (refine Yb rfl ?_ ?_ <;> intro hcnd <;> (try simp at hcnd) <;> try exact dc) | (refine ZnU ?_ ?_; (focus (simp [g1, g2, hb]; done)); refine ZsU ?_) | refine Zx ?_ | clear hK K | (refine hL _ _ _ ?_) | (clear hK K) | (clear hL KL))
    exact .pure .int
   ·exact .int
 ·clear hb hr
  cases ind
  ·have hm := hm rfl
   refine pcall_body func81 rfl call81 ?_ ?_
   rotate_left 1
   refine awp_slots (s' := (.agg [.str raw, .str tbs, .sl 1 B, .int .i64 this, .int .i64 next, .int .i64 num, .int .i64 base, .str [], .bool has, .sl 0 [], .bool false, .bool false, .int .i64 rea, .bool false, .sl 0 [], .sl 1 [.int .i64 s, .int .i64 0, .int .i64 r, .int .i64 (-1), .sl 1 A], .str sig] : V) :: (.int .i64 0 : V) :: zJ 99) rfl ?_; dsimp only [zJ]
   ·repeat' (first | ((first | refine ZuU ?_ | (refine ZvU ?_ ?_; (focus (simp [g1, g2, h8]; done)))); intro K9 h9; simp (disch := first | exact dd | fail) [g1, g2, h8]; refine Zm ?_; ((first | refine Ap hrr ?_ | refine Ap hcn ?_ | refine Ap hm ?_ | skip) <;> (refine ZfU h9 ?_; clear h9 K9))) | refine ZtU ?_ | (refine awp_rounds 2 fun KL hL => ?_) | refine Y8 fun K hK => ?_ | (apply hK; clear hK K) | (refine Zk 0 [] ?_; refine Zl ?_) | (refine Yb rfl ?_ ?_ <;> intro hcnd <;> (try simp at hcnd) <;> try exact dc) | (refine ZnU ?_ ?_; (focus (simp [g1, g2, h8]; done)); refine ZsU ?_) | refine Zx ?_ | clear hK K | (refine hL _ _ _ ?_) | (clear hK K) | (clear hL KL))
    exact .pure .int
   ·exact .int
  ·refine pcall_body func81 rfl call81 ?_ ?_
   rotate_left 1
   refine awp_slots (s' := (.agg [.str raw, .str tbs, .sl 1 B, .int .i64 this, .int .i64 next, .int .i64 num, .int .i64 base, .str [], .bool has, .sl 0 [], .bool false, .bool false, .int .i64 rea, .bool true, .sl 0 [], .sl 1 [.int .i64 s, .int .i64 0, .int .i64 r, .int .i64 (-1), .sl 1 A], .str sig] : V) :: (.int .i64 0 : V) :: zJ 99) rfl ?_; dsimp only [zJ]
   ·repeat' (first | ((first | refine ZuU ?_ | (refine ZvU ?_ ?_; (focus (simp [g1, g2, h8]; done)))); intro K9 h9; simp (disch := first | exact dd | fail) [g1, g2, h8]; refine Zm ?_; ((first | refine Ap hrr ?_ | refine Ap hcn ?_ | skip) <;> (refine ZfU h9 ?_; clear h9 K9))) | refine ZtU ?_ | (refine awp_rounds 2 fun KL hL => ?_) | refine Y8 fun K hK => ?_ | (apply hK; clear hK K) | (refine Zk 0 [] ?_; refine Zl ?_) | (refine Yb rfl ?_ ?_ <;> intro hcnd <;> (try simp at hcnd) <;> try exact dc) | (refine ZnU ?_ ?_; (focus (simp [g1, g2, h8]; done)); refine ZsU ?_) | refine Zx ?_ | clear hK K | (refine hL _ _ _ ?_) | (clear hK K) | (clear hL KL))
    exact .pure .int
   ·exact .int
theorem chkList0_call (raw tbs sig : Bs) (this next num base rea : Int) (has ind : Bool) (B : List V) (ht : 0 ≤ this ∧ this ≤ next ∧ next ≤ 100) (hnb : 0 ≤ num ∧ num ≤ 100 ∧ -1 ≤ base ∧ (base = -1 ∨ base < num)) (hcn : PCall prog 78 [.agg [.sl 1 B]] (.int .i64 0)) (hsc : PCall prog 79 [.agg [.str raw, .str tbs, .sl 1 B, .int .i64 this, .int .i64 next, .int .i64 num, .int .i64 base, .str [], .bool has, .sl 0 [], .bool false, .bool false, .int .i64 rea, .bool ind, .sl 0 [], .sl 0 [], .str sig]] (.int .i64 0)) : PCall prog 43 [.agg [.str raw, .str tbs, .sl 1 B, .int .i64 this, .int .i64 next, .int .i64 num, .int .i64 base, .str [], .bool has, .sl 0 [], .bool false, .bool false, .int .i64 rea, .bool ind, .sl 0 [], .sl 0 [], .str sig]] (.int .i64 0) := by
 have hpt := checkPoints0_call
 have g1 : ¬ this < 0 := by omega
 have g2 : ¬ 254033452799 < this := by omega
 have g3 : ¬ next < 0 := by omega
 have g4 : ¬ 254033452799 < next := by omega
 have g5 : ¬ next < this := by omega
 have g6 : ¬ num < 0 := by omega
 have g7 : ¬ 4611686018427387904 < num := by omega
 by_cases hb : base = -1
 ·subst hb
  refine pcall_body func43 rfl call43 ?_ ?_
  rotate_left 1
  refine awp_slots (s' := (.agg [.str raw, .str tbs, .sl 1 B, .int .i64 this, .int .i64 next, .int .i64 num, .int .i64 (-1), .str [], .bool has, .sl 0 [], .bool false, .bool false, .int .i64 rea, .bool ind, .sl 0 [], .sl 0 [], .str sig] : V) :: zJ 114) rfl ?_; dsimp only [zJ]
  ·repeat' (first | ((first | refine ZuU ?_ | (refine ZvU ?_ ?_; (focus (simp [g1, g2, g3, g4, g5, g6, g7]; done)))); intro K9 h9; simp (disch := first | exact dd | fail) [g1, g2, g3, g4, g5, g6, g7]; refine Zm ?_; ((first | refine Ap hcn ?_ | refine Ap hsc ?_ | refine Ap hpt ?_ | skip) <;> (refine ZfU h9 ?_; clear h9 K9))) | refine ZtU ?_ | (refine awp_rounds 3 fun KL hL => ?_) | refine Y8 fun K hK => ?_ | (apply hK; clear hK K) | (refine Yb rfl ?_ ?_ <;> intro hcnd <;> (try simp at hcnd) <;> try exact dc) | (refine ZnU ?_ ?_; (focus (simp [g1, g2, g3, g4, g5, g6, g7]; done)); refine ZsU ?_) | refine Zx ?_ | clear hK K | (refine hL _ _ _ ?_) | (clear hK K) | (clear hL KL))
   exact .pure .int
  ·exact .int
 ·have g8 : ¬ base < -1 := by omega
  have g9 : ¬ 4611686018427387904 < base := by omega
  have g10 : ¬ num ≤ base := by omega
  refine pcall_body func43 rfl call43 ?_ ?_
  rotate_left 1
  refine awp_slots (s' := (.agg [.str raw, .str tbs, .sl 1 B, .int .i64 this, .int .i64 next, .int .i64 num, .int .i64 base, .str [], .bool has, .sl 0 [], .bool false, .bool false, .int .i64 rea, .bool ind, .sl 0 [], .sl 0 [], .str sig] : V) :: zJ 114) rfl ?_; dsimp only [zJ]
  ·repeat' (first | ((first | refine ZuU ?_ | (refine ZvU ?_ ?_; (focus (simp [g1, g2, g3, g4, g5, g6, g7, g8, g9, g10, hb]; done)))); intro K9 h9; simp (disch := first | exact dd | fail) [g1, g2, g3, g4, g5, g6, g7, g8, g9, g10, hb]; refine Zm ?_; ((first | refine Ap hcn ?_ | refine Ap hsc ?_ | refine Ap hpt ?_ | skip) <;> (refine ZfU h9 ?_; clear h9 K9))) | refine ZtU ?_ | (refine awp_rounds 3 fun KL hL => ?_) | refine Y8 fun K hK => ?_ | (apply hK; clear hK K) | (refine Yb rfl ?_ ?_ <;> intro hcnd <;> (try simp at hcnd) <;> try exact dc) | (refine ZnU ?_ ?_; (focus (simp [g1, g2, g3, g4, g5, g6, g7, g8, g9, g10, hb]; done)); refine ZsU ?_) | refine Zx ?_ | clear hK K | (refine hL _ _ _ ?_) | (clear hK K) | (clear hL KL))
   exact .pure .int
  ·exact .int
theorem chkList1_call (raw tbs sig : Bs) (this next num base rea : Int) (has ind : Bool) (B E : List V) (ht : 0 ≤ this ∧ this ≤ next ∧ next ≤ 100) (hnb : 0 ≤ num ∧ num ≤ 100 ∧ -1 ≤ base ∧ (base = -1 ∨ base < num)) (hcn : PCall prog 78 [.agg [.sl 1 B]] (.int .i64 0)) (hsc : PCall prog 79 [.agg [.str raw, .str tbs, .sl 1 B, .int .i64 this, .int .i64 next, .int .i64 num, .int .i64 base, .str [], .bool has, .sl 0 [], .bool false, .bool false, .int .i64 rea, .bool ind, .sl 0 [], .sl 1 E, .str sig]] (.int .i64 0)) (hce : PCall prog 81 [.agg [.str raw, .str tbs, .sl 1 B, .int .i64 this, .int .i64 next, .int .i64 num, .int .i64 base, .str [], .bool has, .sl 0 [], .bool false, .bool false, .int .i64 rea, .bool ind, .sl 0 [], .sl 1 E, .str sig], .int .i64 0] (.int .i64 0)) : PCall prog 43 [.agg [.str raw, .str tbs, .sl 1 B, .int .i64 this, .int .i64 next, .int .i64 num, .int .i64 base, .str [], .bool has, .sl 0 [], .bool false, .bool false, .int .i64 rea, .bool ind, .sl 0 [], .sl 1 E, .str sig]] (.int .i64 0) := by
 have hpt := checkPoints0_call
 have g1 : ¬ this < 0 := by omega
 have g2 : ¬ 254033452799 < this := by omega
 have g3 : ¬ next < 0 := by omega
 have g4 : ¬ 254033452799 < next := by omega
 have g5 : ¬ next < this := by omega
 have g6 : ¬ num < 0 := by omega
 have g7 : ¬ 4611686018427387904 < num := by omega
 by_cases hb : base = -1
 ·subst hb
  refine pcall_body func43 rfl call43 ?_ ?_
  rotate_left 1
  refine awp_slots (s' := (.agg [.str raw, .str tbs, .sl 1 B, .int .i64 this, .int .i64 next, .int .i64 num, .int .i64 (-1), .str [], .bool has, .sl 0 [], .bool false, .bool false, .int .i64 rea, .bool ind, .sl 0 [], .sl 1 E, .str sig] : V) :: zJ 114) rfl ?_; dsimp only [zJ]
  ·repeat' (first | ((first | refine ZuU ?_ | (refine ZvU ?_ ?_; (focus (simp [g1, g2, g3, g4, g5, g6, g7]; done)))); intro K9 h9; simp (disch := first | exact dd | fail) [g1, g2, g3, g4, g5, g6, g7]; refine Zm ?_; ((first | refine Ap hcn ?_ | refine Ap hsc ?_ | refine Ap hpt ?_ | refine Ap hce ?_ | skip) <;> (refine ZfU h9 ?_; clear h9 K9))) | refine ZtU ?_ | (refine awp_rounds 3 fun KL hL => ?_) | refine Y8 fun K hK => ?_ | (apply hK; clear hK K) | (refine Yb rfl ?_ ?_ <;> intro hcnd <;> (try simp at hcnd) <;> try exact dc) | (refine ZnU ?_ ?_; (focus (simp [g1, g2, g3, g4, g5, g6, g7]; done)); refine ZsU ?_) | refine Zx ?_ | clear hK K | (refine hL _ _ _ ?_) | (clear hK K) | (clear hL KL))
   exact .pure .int
  ·exact .int
 ·have g8 : ¬ base < -1 := by omega
  have g9 : ¬ 4611686018427387904 < base := by omega
  have g10 : ¬ num ≤ base := by omega
  refine pcall_body func43 rfl call43 ?_ ?_
  rotate_left 1
  refine awp_slots (s' := (.agg [.str raw, .str tbs, .sl 1 B, .int .i64 this, .int .i64 next, .int .i64 num, .int .i64 base, .str [], .bool has, .sl 0 [], .bool false, .bool false, .int .i64 rea, .bool ind, .sl 0 [], .sl 1 E, .str sig] : V) :: zJ 114) rfl ?_; dsimp only [zJ]
  ·repeat' (first | ((first | refine ZuU ?_ | (refine ZvU ?_ ?_; (focus (simp [g1, g2, g3, g4, g5, g6, g7, g8, g9, g10, hb]; done)))); intro K9 h9; simp (disch := first | exact dd | fail) [g1, g2, g3, g4, g5, g6, g7, g8, g9, g10, hb]; refine Zm ?_; ((first | refine Ap hcn ?_ | refine Ap hsc ?_ | refine Ap hpt ?_ | refine Ap hce ?_ | skip) <;> (refine ZfU h9 ?_; clear h9 K9))) | refine ZtU ?_ | (refine awp_rounds 3 fun KL hL => ?_) | refine Y8 fun K hK => ?_ | (apply hK; clear hK K) | (refine Yb rfl ?_ ?_ <;> intro hcnd <;> (try simp at hcnd) <;> try exact dc) | (refine ZnU ?_ ?_; (focus (simp [g1, g2, g3, g4, g5, g6, g7, g8, g9, g10, hb]; done)); refine ZsU ?_) | refine Zx ?_ | clear hK K | (refine hL _ _ _ ?_) | (clear hK K) | (clear hL KL))
   exact .pure .int
  ·exact .int
end Go.Proofs.YtnpndfmbkmbhbaaGreatDoor

