/-
 STATUS: StatusStale.
 Conditions: none.
-/
import Derived.Test.YtnpndfmbkmbhbaaGreatDoorE19
set_option maxRecDepth 100000
set_option maxHeartbeats 32000000
set_option linter.all false
namespace Go.Proofs.YtnpndfmbkmbhbaaGreatDoor
open Go.Proofs.Tryz
open Go.VS Go.Stp Go.Der Go.Sta
attribute [local irreducible] arun arunD arunU AWp aend verE wr DU.arunD
attribute [local simp] DU.gval
def eC (s r : Int) : V := .sl 1 [.int .i64 s, .int .i64 0, .int .i64 r, .int .i64 (-1), nmV (authN 0)]
def uC (p : V) : List V := [.str [], .str [], .int .i64 5, nmV (authN 0), .sl 0 [], .int .i64 0, .int .i64 0, .int .i64 0, .str [], .str [], .bool false, .bool false, .int .i64 0, .int .i64 0, .sl 0 [], .sl 0 [], .sl 0 [], .int .i64 0, .int .i64 0, .int .i64 0, .sl 0 [], .bool false, .sl 0 [], .sl 0 [], .str [], .str [], p, .sl 0 [], .sl 0 [], .str []]
def lC (raw tbs : List UInt8) (I : V) (a b n c : Int) (has : Bool) (rea : Int) (ind : Bool) (En : V) (sg : List UInt8) (z : V) : List V := [.str raw, .str tbs, I, .int .i64 a, .int .i64 b, .int .i64 n, .int .i64 c, .str [], .bool has, z, .bool false, .bool false, .int .i64 rea, .bool ind, z, En, .str sg]
structure StF (x : Int) (t : Nat) (KY : V) (ID RT w1 t1 g1 w2 t2 g2 : List UInt8) : Prop where
 aw : PCall prog 16 [] (.bool true)
 u5 : PCall prog 14 [.int .i64 5] (.agg (uC (.sl 0 [])))
 an : PCall prog 12 [.int .i64 0] (.agg [nmV (authN 0), .int .i64 0, .str ID, .str RT])
 a0 : PCall prog 17 [.int .i64 0] (.agg [nmV (authN 0)])
 k0 : PCall prog 19 [.int .i64 0] (KY)
 hKy : KY.Pure
 sA : PCall prog 18 [.agg (lC [] [] (nmV (authN 0)) 3 6 1 (-1) false 0 false .nils [] .nils), KY, .int .i64 0] (.agg (lC w1 t1 (nmV (authN 0)) 3 6 1 (-1) false 0 false (.sl 0 []) g1 (.sl 0 [])))
 sB : PCall prog 18 [.agg (lC [] [] (nmV (authN 0)) 5 9 2 1 false 0 false (eC 5 1) [] .nils), KY, .int .i64 0] (.agg (lC w2 t2 (nmV (authN 0)) 5 9 2 1 false 0 false (eC 5 1) g2 (.sl 0 [])))
 p1 : PCall prog 13 [.agg (uC (.sl 0 [])), .sl 1 [nmV (authN 0), .int .i64 0, .str ID, .str RT], .sl 1 (lC w1 t1 (nmV (authN 0)) 3 6 1 (-1) false 0 false (.sl 0 []) g1 (.sl 0 [])), .int .i64 t] (.int .i64 (if 3 ≤ t ∧ t ≤ 6 then 1 else 0))
 p2 : PCall prog 13 [.agg (uC (.sl 0 [])), .sl 1 [nmV (authN 0), .int .i64 0, .str ID, .str RT], .sl 2 (lC w1 t1 (nmV (authN 0)) 3 6 1 (-1) false 0 false (.sl 0 []) g1 (.sl 0 []) ++ lC w2 t2 (nmV (authN 0)) 5 9 2 1 false 0 false (eC 5 1) g2 (.sl 0 [])), .int .i64 t] (.int .i64 (if 5 ≤ t ∧ t ≤ 9 then 2 else if 3 ≤ t ∧ t ≤ 6 then 1 else 0))
 nt : GCall prog 10 [.ref 1 0, .int .i64 ((14 : Nat) : Int)] [[.int .i64 x], [.osl 0 0 1 1, .int .i64 0]] ([[.int .i64 x], [.osl 0 0 1 1, .int .i64 1]] ++ []) (.int .i64 t)
theorem stF (x : Int) (hx : -9223372036854775808 ≤ x ∧ x ≤ 9223372036854775807) : ∃ t KY ID RT w1 t1 g1 w2 t2 g2, StF x t KY ID RT w1 t1 g1 w2 t2 g2 := by
 have hKy : (rtV (mseedS (1000 + ((0 : Nat) : Int))) 0).Pure := by unfold rtV; simp
 have w1 : ∀ s ∈ [anc 0], WAn s := fun s hs => by simp at hs; subst hs; exact anc_w 0
 have hbt := dkX_bounds (l := [x]) (a := 0) (n := 14) (by omega)
 obtain ⟨t, et, lt⟩ : ∃ k : Nat, dkX [x] 0 14 = k ∧ k < 14 := ⟨(dkX [x] 0 14).toNat, by omega, by omega⟩
 have nt := nextP_call x 14 hx (by omega) (by omega)
 rw [et] at nt
 clear hbt et
 have kA : MlOk (⟨authV 0, 3, 6, 1, .N, none⟩ : Ml) := mk_ok vok0 3 6 1 .N (by omega) (by omega) (by omega) (fun b h => by cases h) (fun r h => by cases h)
 have kB : MlOk (⟨authV 0, 5, 9, 2, .D 1, some (5, 1, authV 0)⟩ : Ml) := mk_okE vok0 5 9 2 (.D 1) 5 1 (authV 0) (by omega) (by omega) (by omega) (fun b h => by cases h; omega) (fun r h => by cases h) ⟨by omega, by omega, by omega, vok0, fun h => absurd h (by omega), .inl ⟨rfl, n00⟩⟩
 have oA : Own0 (⟨authV 0, 3, 6, 1, .N, none⟩ : Ml) := ⟨rfl, .inl rfl⟩
 have oB : Own0 (⟨authV 0, 5, 9, 2, .D 1, some (5, 1, authV 0)⟩ : Ml) := ⟨rfl, .inr ⟨1, rfl⟩⟩
 have p1 := of_call (uce 5 []) [anc 0] [(⟨authV 0, 3, 6, 1, .N, none⟩ : Ml).done 0] t (uce_w 5 (by simp) (by simp; exact done_wst kA 0)) (by simp) w1 (by simp)
 rw [v_c oA rfl, fnd_none rfl] at p1
 have p2 := of_call (uce 5 []) [anc 0] [(⟨authV 0, 3, 6, 1, .N, none⟩ : Ml).done 0, (⟨authV 0, 5, 9, 2, .D 1, some (5, 1, authV 0)⟩ : Ml).done 0] t (uce_w 5 (by simp) (by simp; exact ⟨done_wst kA 0, done_wst kB 0⟩)) (by simp) w1 (by simp)
 rw [v_cd oA oB rfl (b := 1) rfl, fnd_some (m := (⟨authV 0, 5, 9, 2, .D 1, some (5, 1, authV 0)⟩ : Ml)) (s := 5) (r := 1) (w := authV 0) rfl rfl n00, fnd_none (m := (⟨authV 0, 3, 6, 1, .N, none⟩ : Ml)) rfl] at p2
 have hp1 : (if ((3 : Nat) : Int) ≤ t ∧ (t : Int) ≤ ((6 : Nat) : Int) then stV (vdR none) else 0) = if 3 ≤ t ∧ t ≤ 6 then 1 else 0 := by
  by_cases h : 3 ≤ t ∧ t ≤ 6
  ·rw [if_pos h, if_pos (by omega)]; rfl
  ·rw [if_neg h, if_neg (by omega)]
 have hp2 : (if (((1 : Nat) : Int) ≤ ((1 : Nat) : Int) ∧ ((1 : Nat) : Int) < ((2 : Nat) : Int)) ∧ (((5 : Nat) : Int) ≤ t ∧ (t : Int) ≤ ((9 : Nat) : Int)) ∧ ((3 : Nat) : Int) ≤ t then stV (vdR ((some ⟨(5 : Nat), 0, (1 : Nat), -1, nm1 (authV 0)⟩ : Option En).or none)) else if ((3 : Nat) : Int) ≤ t ∧ (t : Int) ≤ ((6 : Nat) : Int) then stV (vdR none) else 0) = if 5 ≤ t ∧ t ≤ 9 then 2 else if 3 ≤ t ∧ t ≤ 6 then 1 else 0 := by
  by_cases h : 5 ≤ t ∧ t ≤ 9
  ·rw [if_pos h, if_pos (by omega)]; rfl
  ·rw [if_neg h, if_neg (by omega)]
   by_cases h : 3 ≤ t ∧ t ≤ 6
   ·rw [if_pos h, if_pos (by omega)]; rfl
   ·rw [if_neg h, if_neg (by omega)]
 exact ⟨t, _, _, _, _, _, _, _, _, _, awake28_call, user_call 5, anchor_call 0 (by omega), auth_call 0 (by omega), ekey_call 0 (by omega), hKy, ml_sign _ kA 0, ml_sign _ kB 0, hp1 ▸ p1, hp2 ▸ p2, nt⟩
theorem st01 {x : Int} {t : Nat} {KY : V} {ID RT w1 t1 g1 w2 t2 g2 : List UInt8} (F : StF x t KY ID RT w1 t1 g1 w2 t2 g2) (cls : t < 3) : PCall prog 6 [.int .i64 x, .bool false] (.bool true) := by
 obtain ⟨aw, u5, an, a0, k0, hKy, sA, sB, p1, p2, nt⟩ := F
 clear p2
 have q3 : ¬ 3 ≤ t := by omega
 have q6 : t ≤ 6 := by omega
 have q5 : ¬ 5 ≤ t := by omega
 have q9 : t ≤ 9 := by omega
 have z3 : ¬ (3 : Int) ≤ t := by omega
 have z6 : (t : Int) ≤ 6 := by omega
 have z5 : ¬ (5 : Int) ≤ t := by omega
 have z9 : (t : Int) ≤ 9 := by omega
 rw [if_neg (by omega)] at p1
 clear cls
 dsimp only [uC, lC, eC, List.cons_append, List.nil_append] at u5 sA sB p1
 refine pcall_body func6 rfl call6 ?_ ?_
 rotate_left 1
 refine awp_slots (s' := (.int .i64 x : V) :: (.bool false : V) :: zJ 57) rfl ?_; dsimp only [zJ]
 rotate_left 1
 ·exact .bool
 refine awp_seq fun K hK => ?_
 repeat' (first | refine Zr ?_ | refine Zt ?_ | ((first | refine Zk 1 [] ?_ | refine Zk 2 [] ?_); refine Zl ?_) | (refine Yb rfl ?_ ?_ <;> intro hcnd <;> (try simp at hcnd) <;> try exact dc) | refine Zo ?_ | refine Zx ?_ | fail)
 refine hK _ _ ?_; clear hK K
 refine awp_seq fun K hK => ?_
 repeat' (first | ((first | refine Zu ?_ | (refine Zv ?_ ?_; (focus (simp; done)))); intro K9 h9; refine Zd ?_; ((first | refine acall_gen (rows' := [[.int .i64 x]]) (news := [[.osl 0 0 1 1, .int .i64 0]]) [0] [[.int .i64 x]] [[.osl 0 0 1 1, .int .i64 0]] (newP_call x) (by simp) (by simp [rowsOver, rowRen_live]) (by simp) rfl rfl (by simp [behind]) (rc := .ref 1 0) (by simp [behind]) ?_ | refine acall_gen (rows' := [[.int .i64 x], [.osl 0 0 1 1, .int .i64 1]]) (news := []) [0, 1] [[.int .i64 x], [.osl 0 0 1 1, .int .i64 1]] [] nt (by simp) (by simp [rowsOver, rowRen_live]) (by simp) rfl rfl (by simp [behind]) (rc := .int .i64 t) (by simp) ?_ | skip) <;> (refine Zf h9 ?_; clear h9 K9))) | refine Zt ?_ | ((first | refine Zk 1 [] ?_ | refine Zk 2 [] ?_); refine Zl ?_) | (refine Yb rfl ?_ ?_ <;> intro hcnd <;> (try simp at hcnd) <;> try exact dc) | refine Zo ?_ | refine Zx ?_ | fail)
 refine hK _ _ ?_; clear hK K
 repeat' (first | refine Zz 2 ?_ | refine Zz 5 ?_ | ((first | refine ZuU ?_ | (refine ZvU ?_ ?_; (focus (simp [q3, q6, q5, q9, z3, z6, z5, z9, hKy]; done)))); intro K9 h9; simp (disch := first | exact dd | fail) [q3, q6, q5, q9, z3, z6, z5, z9, hKy]; refine Zm ?_; ((first | refine Zc u5 ?_ | refine Zc an ?_ | refine Zc aw ?_ | refine Zc a0 ?_ | refine Zc k0 ?_ | refine Zc sA ?_ | refine Zc sB ?_ | refine acall_view p1 ⟨.pure (by simp), .pure .sl, view_row rfl (by simp) (by simp), .pure .int, trivial⟩ .int ?_ | skip) <;> (refine ZfU h9 ?_; clear h9 K9))) | refine ZtU ?_ | refine Y8 fun K hK => ?_ | (apply hK; clear hK K) | ((first | refine Zk (ops := #[_, _, _, _, _]) 1 [0, 1, 1, 0, 0] ?_ | refine Zk (ops := #[_, _, _, _, _]) 2 [0, 1, 1, 0, 0] ?_ | refine Zk (ops := #[_, _, _, _, _, _, _]) 1 [0, 0, 1, 1, 0, 0, 0] ?_ | refine Zk (ops := #[_, _, _, _, _, _, _]) 2 [0, 0, 1, 1, 0, 0, 0] ?_ | refine Zk 1 [] ?_ | refine Zk 2 [] ?_); refine Zl ?_) | (refine Yb rfl ?_ ?_ <;> intro hcnd <;> (try simp at hcnd) <;> try exact dc) | (refine ZnU ?_ ?_; (focus (simp [q3, q6, q5, q9, z3, z6, z5, z9, hKy]; done)); refine ZsU ?_) | refine Zx ?_ | clear hK K)
 simp
 exact .pure .bool
theorem st02 {x : Int} {t : Nat} {KY : V} {ID RT w1 t1 g1 w2 t2 g2 : List UInt8} (F : StF x t KY ID RT w1 t1 g1 w2 t2 g2) (cls : t < 3) : PCall prog 6 [.int .i64 x, .bool true] (.bool true) := by
 obtain ⟨aw, u5, an, a0, k0, hKy, sA, sB, p1, p2, nt⟩ := F
 clear p1
 have q3 : ¬ 3 ≤ t := by omega
 have q6 : t ≤ 6 := by omega
 have q5 : ¬ 5 ≤ t := by omega
 have q9 : t ≤ 9 := by omega
 have z3 : ¬ (3 : Int) ≤ t := by omega
 have z6 : (t : Int) ≤ 6 := by omega
 have z5 : ¬ (5 : Int) ≤ t := by omega
 have z9 : (t : Int) ≤ 9 := by omega
 rw [if_neg (by omega), if_neg (by omega)] at p2
 clear cls
 dsimp only [uC, lC, eC, List.cons_append, List.nil_append] at u5 sA sB p2
 refine pcall_body func6 rfl call6 ?_ ?_
 rotate_left 1
 refine awp_slots (s' := (.int .i64 x : V) :: (.bool true : V) :: zJ 57) rfl ?_; dsimp only [zJ]
 rotate_left 1
 ·exact .bool
 refine awp_seq fun K hK => ?_
 repeat' (first | refine Zr ?_ | refine Zt ?_ | ((first | refine Zk 1 [] ?_ | refine Zk 2 [] ?_); refine Zl ?_) | (refine Yb rfl ?_ ?_ <;> intro hcnd <;> (try simp at hcnd) <;> try exact dc) | refine Zo ?_ | refine Zx ?_ | fail)
 refine hK _ _ ?_; clear hK K
 refine awp_seq fun K hK => ?_
 repeat' (first | ((first | refine Zu ?_ | (refine Zv ?_ ?_; (focus (simp; done)))); intro K9 h9; refine Zd ?_; ((first | refine acall_gen (rows' := [[.int .i64 x]]) (news := [[.osl 0 0 1 1, .int .i64 0]]) [0] [[.int .i64 x]] [[.osl 0 0 1 1, .int .i64 0]] (newP_call x) (by simp) (by simp [rowsOver, rowRen_live]) (by simp) rfl rfl (by simp [behind]) (rc := .ref 1 0) (by simp [behind]) ?_ | refine acall_gen (rows' := [[.int .i64 x], [.osl 0 0 1 1, .int .i64 1]]) (news := []) [0, 1] [[.int .i64 x], [.osl 0 0 1 1, .int .i64 1]] [] nt (by simp) (by simp [rowsOver, rowRen_live]) (by simp) rfl rfl (by simp [behind]) (rc := .int .i64 t) (by simp) ?_ | skip) <;> (refine Zf h9 ?_; clear h9 K9))) | refine Zt ?_ | ((first | refine Zk 1 [] ?_ | refine Zk 2 [] ?_); refine Zl ?_) | (refine Yb rfl ?_ ?_ <;> intro hcnd <;> (try simp at hcnd) <;> try exact dc) | refine Zo ?_ | refine Zx ?_ | fail)
 refine hK _ _ ?_; clear hK K
 repeat' (first | refine Zz 2 ?_ | refine Zz 5 ?_ | ((first | refine ZuU ?_ | (refine ZvU ?_ ?_; (focus (simp [q3, q6, q5, q9, z3, z6, z5, z9, hKy]; done)))); intro K9 h9; simp (disch := first | exact dd | fail) [q3, q6, q5, q9, z3, z6, z5, z9, hKy]; refine Zm ?_; ((first | refine Zc u5 ?_ | refine Zc an ?_ | refine Zc aw ?_ | refine Zc a0 ?_ | refine Zc k0 ?_ | refine Zc sA ?_ | refine Zc sB ?_ | refine acall_view p2 ⟨.pure (by simp), .pure .sl, view_row rfl (by simp) (by simp), .pure .int, trivial⟩ .int ?_ | skip) <;> (refine ZfU h9 ?_; clear h9 K9))) | refine ZtU ?_ | refine Y8 fun K hK => ?_ | (apply hK; clear hK K) | ((first | refine Zk (ops := #[_, _, _, _, _]) 1 [0, 1, 1, 0, 0] ?_ | refine Zk (ops := #[_, _, _, _, _]) 2 [0, 1, 1, 0, 0] ?_ | refine Zk (ops := #[_, _, _, _, _, _, _]) 1 [0, 0, 1, 1, 0, 0, 0] ?_ | refine Zk (ops := #[_, _, _, _, _, _, _]) 2 [0, 0, 1, 1, 0, 0, 0] ?_ | refine Zk 1 [] ?_ | refine Zk 2 [] ?_); refine Zl ?_) | (refine Yb rfl ?_ ?_ <;> intro hcnd <;> (try simp at hcnd) <;> try exact dc) | (refine ZnU ?_ ?_; (focus (simp [q3, q6, q5, q9, z3, z6, z5, z9, hKy]; done)); refine ZsU ?_) | refine Zx ?_ | clear hK K)
 simp
 exact .pure .bool
theorem st11 {x : Int} {t : Nat} {KY : V} {ID RT w1 t1 g1 w2 t2 g2 : List UInt8} (F : StF x t KY ID RT w1 t1 g1 w2 t2 g2) (cls : 3 ≤ t ∧ t < 5) : PCall prog 6 [.int .i64 x, .bool false] (.bool true) := by
 obtain ⟨aw, u5, an, a0, k0, hKy, sA, sB, p1, p2, nt⟩ := F
 clear p2
 have q3 : 3 ≤ t := by omega
 have q6 : t ≤ 6 := by omega
 have q5 : ¬ 5 ≤ t := by omega
 have q9 : t ≤ 9 := by omega
 have z3 : (3 : Int) ≤ t := by omega
 have z6 : (t : Int) ≤ 6 := by omega
 have z5 : ¬ (5 : Int) ≤ t := by omega
 have z9 : (t : Int) ≤ 9 := by omega
 rw [if_pos (by omega)] at p1
 clear cls
 dsimp only [uC, lC, eC, List.cons_append, List.nil_append] at u5 sA sB p1
 refine pcall_body func6 rfl call6 ?_ ?_
 rotate_left 1
 refine awp_slots (s' := (.int .i64 x : V) :: (.bool false : V) :: zJ 57) rfl ?_; dsimp only [zJ]
 rotate_left 1
 ·exact .bool
 refine awp_seq fun K hK => ?_
 repeat' (first | refine Zr ?_ | refine Zt ?_ | ((first | refine Zk 1 [] ?_ | refine Zk 2 [] ?_); refine Zl ?_) | (refine Yb rfl ?_ ?_ <;> intro hcnd <;> (try simp at hcnd) <;> try exact dc) | refine Zo ?_ | refine Zx ?_ | fail)
 refine hK _ _ ?_; clear hK K
 refine awp_seq fun K hK => ?_
 repeat' (first | ((first | refine Zu ?_ | (refine Zv ?_ ?_; (focus (simp; done)))); intro K9 h9; refine Zd ?_; ((first | refine acall_gen (rows' := [[.int .i64 x]]) (news := [[.osl 0 0 1 1, .int .i64 0]]) [0] [[.int .i64 x]] [[.osl 0 0 1 1, .int .i64 0]] (newP_call x) (by simp) (by simp [rowsOver, rowRen_live]) (by simp) rfl rfl (by simp [behind]) (rc := .ref 1 0) (by simp [behind]) ?_ | refine acall_gen (rows' := [[.int .i64 x], [.osl 0 0 1 1, .int .i64 1]]) (news := []) [0, 1] [[.int .i64 x], [.osl 0 0 1 1, .int .i64 1]] [] nt (by simp) (by simp [rowsOver, rowRen_live]) (by simp) rfl rfl (by simp [behind]) (rc := .int .i64 t) (by simp) ?_ | skip) <;> (refine Zf h9 ?_; clear h9 K9))) | refine Zt ?_ | ((first | refine Zk 1 [] ?_ | refine Zk 2 [] ?_); refine Zl ?_) | (refine Yb rfl ?_ ?_ <;> intro hcnd <;> (try simp at hcnd) <;> try exact dc) | refine Zo ?_ | refine Zx ?_ | fail)
 refine hK _ _ ?_; clear hK K
 repeat' (first | refine Zz 2 ?_ | refine Zz 5 ?_ | ((first | refine ZuU ?_ | (refine ZvU ?_ ?_; (focus (simp [q3, q6, q5, q9, z3, z6, z5, z9, hKy]; done)))); intro K9 h9; simp (disch := first | exact dd | fail) [q3, q6, q5, q9, z3, z6, z5, z9, hKy]; refine Zm ?_; ((first | refine Zc u5 ?_ | refine Zc an ?_ | refine Zc aw ?_ | refine Zc a0 ?_ | refine Zc k0 ?_ | refine Zc sA ?_ | refine Zc sB ?_ | refine acall_view p1 ⟨.pure (by simp), .pure .sl, view_row rfl (by simp) (by simp), .pure .int, trivial⟩ .int ?_ | skip) <;> (refine ZfU h9 ?_; clear h9 K9))) | refine ZtU ?_ | refine Y8 fun K hK => ?_ | (apply hK; clear hK K) | ((first | refine Zk (ops := #[_, _, _, _, _]) 1 [0, 1, 1, 0, 0] ?_ | refine Zk (ops := #[_, _, _, _, _]) 2 [0, 1, 1, 0, 0] ?_ | refine Zk (ops := #[_, _, _, _, _, _, _]) 1 [0, 0, 1, 1, 0, 0, 0] ?_ | refine Zk (ops := #[_, _, _, _, _, _, _]) 2 [0, 0, 1, 1, 0, 0, 0] ?_ | refine Zk 1 [] ?_ | refine Zk 2 [] ?_); refine Zl ?_) | (refine Yb rfl ?_ ?_ <;> intro hcnd <;> (try simp at hcnd) <;> try exact dc) | (refine ZnU ?_ ?_; (focus (simp [q3, q6, q5, q9, z3, z6, z5, z9, hKy]; done)); refine ZsU ?_) | refine Zx ?_ | clear hK K)
 simp
 exact .pure .bool
theorem st12 {x : Int} {t : Nat} {KY : V} {ID RT w1 t1 g1 w2 t2 g2 : List UInt8} (F : StF x t KY ID RT w1 t1 g1 w2 t2 g2) (cls : 3 ≤ t ∧ t < 5) : PCall prog 6 [.int .i64 x, .bool true] (.bool true) := by
 obtain ⟨aw, u5, an, a0, k0, hKy, sA, sB, p1, p2, nt⟩ := F
 clear p1
 have q3 : 3 ≤ t := by omega
 have q6 : t ≤ 6 := by omega
 have q5 : ¬ 5 ≤ t := by omega
 have q9 : t ≤ 9 := by omega
 have z3 : (3 : Int) ≤ t := by omega
 have z6 : (t : Int) ≤ 6 := by omega
 have z5 : ¬ (5 : Int) ≤ t := by omega
 have z9 : (t : Int) ≤ 9 := by omega
 rw [if_neg (by omega), if_pos (by omega)] at p2
 clear cls
 dsimp only [uC, lC, eC, List.cons_append, List.nil_append] at u5 sA sB p2
 refine pcall_body func6 rfl call6 ?_ ?_
 rotate_left 1
 refine awp_slots (s' := (.int .i64 x : V) :: (.bool true : V) :: zJ 57) rfl ?_; dsimp only [zJ]
 rotate_left 1
 ·exact .bool
 refine awp_seq fun K hK => ?_
 repeat' (first | refine Zr ?_ | refine Zt ?_ | ((first | refine Zk 1 [] ?_ | refine Zk 2 [] ?_); refine Zl ?_) | (refine Yb rfl ?_ ?_ <;> intro hcnd <;> (try simp at hcnd) <;> try exact dc) | refine Zo ?_ | refine Zx ?_ | fail)
 refine hK _ _ ?_; clear hK K
 refine awp_seq fun K hK => ?_
 repeat' (first | ((first | refine Zu ?_ | (refine Zv ?_ ?_; (focus (simp; done)))); intro K9 h9; refine Zd ?_; ((first | refine acall_gen (rows' := [[.int .i64 x]]) (news := [[.osl 0 0 1 1, .int .i64 0]]) [0] [[.int .i64 x]] [[.osl 0 0 1 1, .int .i64 0]] (newP_call x) (by simp) (by simp [rowsOver, rowRen_live]) (by simp) rfl rfl (by simp [behind]) (rc := .ref 1 0) (by simp [behind]) ?_ | refine acall_gen (rows' := [[.int .i64 x], [.osl 0 0 1 1, .int .i64 1]]) (news := []) [0, 1] [[.int .i64 x], [.osl 0 0 1 1, .int .i64 1]] [] nt (by simp) (by simp [rowsOver, rowRen_live]) (by simp) rfl rfl (by simp [behind]) (rc := .int .i64 t) (by simp) ?_ | skip) <;> (refine Zf h9 ?_; clear h9 K9))) | refine Zt ?_ | ((first | refine Zk 1 [] ?_ | refine Zk 2 [] ?_); refine Zl ?_) | (refine Yb rfl ?_ ?_ <;> intro hcnd <;> (try simp at hcnd) <;> try exact dc) | refine Zo ?_ | refine Zx ?_ | fail)
 refine hK _ _ ?_; clear hK K
 repeat' (first | refine Zz 2 ?_ | refine Zz 5 ?_ | ((first | refine ZuU ?_ | (refine ZvU ?_ ?_; (focus (simp [q3, q6, q5, q9, z3, z6, z5, z9, hKy]; done)))); intro K9 h9; simp (disch := first | exact dd | fail) [q3, q6, q5, q9, z3, z6, z5, z9, hKy]; refine Zm ?_; ((first | refine Zc u5 ?_ | refine Zc an ?_ | refine Zc aw ?_ | refine Zc a0 ?_ | refine Zc k0 ?_ | refine Zc sA ?_ | refine Zc sB ?_ | refine acall_view p2 ⟨.pure (by simp), .pure .sl, view_row rfl (by simp) (by simp), .pure .int, trivial⟩ .int ?_ | skip) <;> (refine ZfU h9 ?_; clear h9 K9))) | refine ZtU ?_ | refine Y8 fun K hK => ?_ | (apply hK; clear hK K) | ((first | refine Zk (ops := #[_, _, _, _, _]) 1 [0, 1, 1, 0, 0] ?_ | refine Zk (ops := #[_, _, _, _, _]) 2 [0, 1, 1, 0, 0] ?_ | refine Zk (ops := #[_, _, _, _, _, _, _]) 1 [0, 0, 1, 1, 0, 0, 0] ?_ | refine Zk (ops := #[_, _, _, _, _, _, _]) 2 [0, 0, 1, 1, 0, 0, 0] ?_ | refine Zk 1 [] ?_ | refine Zk 2 [] ?_); refine Zl ?_) | (refine Yb rfl ?_ ?_ <;> intro hcnd <;> (try simp at hcnd) <;> try exact dc) | (refine ZnU ?_ ?_; (focus (simp [q3, q6, q5, q9, z3, z6, z5, z9, hKy]; done)); refine ZsU ?_) | refine Zx ?_ | clear hK K)
 simp
 exact .pure .bool
theorem st21 {x : Int} {t : Nat} {KY : V} {ID RT w1 t1 g1 w2 t2 g2 : List UInt8} (F : StF x t KY ID RT w1 t1 g1 w2 t2 g2) (cls : 5 ≤ t ∧ t ≤ 6) : PCall prog 6 [.int .i64 x, .bool false] (.bool true) := by
 obtain ⟨aw, u5, an, a0, k0, hKy, sA, sB, p1, p2, nt⟩ := F
 clear p2
 have q3 : 3 ≤ t := by omega
 have q6 : t ≤ 6 := by omega
 have q5 : 5 ≤ t := by omega
 have q9 : t ≤ 9 := by omega
 have z3 : (3 : Int) ≤ t := by omega
 have z6 : (t : Int) ≤ 6 := by omega
 have z5 : (5 : Int) ≤ t := by omega
 have z9 : (t : Int) ≤ 9 := by omega
 rw [if_pos (by omega)] at p1
 clear cls
 dsimp only [uC, lC, eC, List.cons_append, List.nil_append] at u5 sA sB p1
 refine pcall_body func6 rfl call6 ?_ ?_
 rotate_left 1
 refine awp_slots (s' := (.int .i64 x : V) :: (.bool false : V) :: zJ 57) rfl ?_; dsimp only [zJ]
 rotate_left 1
 ·exact .bool
 refine awp_seq fun K hK => ?_
 repeat' (first | refine Zr ?_ | refine Zt ?_ | ((first | refine Zk 1 [] ?_ | refine Zk 2 [] ?_); refine Zl ?_) | (refine Yb rfl ?_ ?_ <;> intro hcnd <;> (try simp at hcnd) <;> try exact dc) | refine Zo ?_ | refine Zx ?_ | fail)
 refine hK _ _ ?_; clear hK K
 refine awp_seq fun K hK => ?_
 repeat' (first | ((first | refine Zu ?_ | (refine Zv ?_ ?_; (focus (simp; done)))); intro K9 h9; refine Zd ?_; ((first | refine acall_gen (rows' := [[.int .i64 x]]) (news := [[.osl 0 0 1 1, .int .i64 0]]) [0] [[.int .i64 x]] [[.osl 0 0 1 1, .int .i64 0]] (newP_call x) (by simp) (by simp [rowsOver, rowRen_live]) (by simp) rfl rfl (by simp [behind]) (rc := .ref 1 0) (by simp [behind]) ?_ | refine acall_gen (rows' := [[.int .i64 x], [.osl 0 0 1 1, .int .i64 1]]) (news := []) [0, 1] [[.int .i64 x], [.osl 0 0 1 1, .int .i64 1]] [] nt (by simp) (by simp [rowsOver, rowRen_live]) (by simp) rfl rfl (by simp [behind]) (rc := .int .i64 t) (by simp) ?_ | skip) <;> (refine Zf h9 ?_; clear h9 K9))) | refine Zt ?_ | ((first | refine Zk 1 [] ?_ | refine Zk 2 [] ?_); refine Zl ?_) | (refine Yb rfl ?_ ?_ <;> intro hcnd <;> (try simp at hcnd) <;> try exact dc) | refine Zo ?_ | refine Zx ?_ | fail)
 refine hK _ _ ?_; clear hK K
 repeat' (first | refine Zz 2 ?_ | refine Zz 5 ?_ | ((first | refine ZuU ?_ | (refine ZvU ?_ ?_; (focus (simp [q3, q6, q5, q9, z3, z6, z5, z9, hKy]; done)))); intro K9 h9; simp (disch := first | exact dd | fail) [q3, q6, q5, q9, z3, z6, z5, z9, hKy]; refine Zm ?_; ((first | refine Zc u5 ?_ | refine Zc an ?_ | refine Zc aw ?_ | refine Zc a0 ?_ | refine Zc k0 ?_ | refine Zc sA ?_ | refine Zc sB ?_ | refine acall_view p1 ⟨.pure (by simp), .pure .sl, view_row rfl (by simp) (by simp), .pure .int, trivial⟩ .int ?_ | skip) <;> (refine ZfU h9 ?_; clear h9 K9))) | refine ZtU ?_ | refine Y8 fun K hK => ?_ | (apply hK; clear hK K) | ((first | refine Zk (ops := #[_, _, _, _, _]) 1 [0, 1, 1, 0, 0] ?_ | refine Zk (ops := #[_, _, _, _, _]) 2 [0, 1, 1, 0, 0] ?_ | refine Zk (ops := #[_, _, _, _, _, _, _]) 1 [0, 0, 1, 1, 0, 0, 0] ?_ | refine Zk (ops := #[_, _, _, _, _, _, _]) 2 [0, 0, 1, 1, 0, 0, 0] ?_ | refine Zk 1 [] ?_ | refine Zk 2 [] ?_); refine Zl ?_) | (refine Yb rfl ?_ ?_ <;> intro hcnd <;> (try simp at hcnd) <;> try exact dc) | (refine ZnU ?_ ?_; (focus (simp [q3, q6, q5, q9, z3, z6, z5, z9, hKy]; done)); refine ZsU ?_) | refine Zx ?_ | clear hK K)
 simp
 exact .pure .bool
theorem st22 {x : Int} {t : Nat} {KY : V} {ID RT w1 t1 g1 w2 t2 g2 : List UInt8} (F : StF x t KY ID RT w1 t1 g1 w2 t2 g2) (cls : 5 ≤ t ∧ t ≤ 6) : PCall prog 6 [.int .i64 x, .bool true] (.bool true) := by
 obtain ⟨aw, u5, an, a0, k0, hKy, sA, sB, p1, p2, nt⟩ := F
 clear p1
 have q3 : 3 ≤ t := by omega
 have q6 : t ≤ 6 := by omega
 have q5 : 5 ≤ t := by omega
 have q9 : t ≤ 9 := by omega
 have z3 : (3 : Int) ≤ t := by omega
 have z6 : (t : Int) ≤ 6 := by omega
 have z5 : (5 : Int) ≤ t := by omega
 have z9 : (t : Int) ≤ 9 := by omega
 rw [if_pos (by omega)] at p2
 clear cls
 dsimp only [uC, lC, eC, List.cons_append, List.nil_append] at u5 sA sB p2
 refine pcall_body func6 rfl call6 ?_ ?_
 rotate_left 1
 refine awp_slots (s' := (.int .i64 x : V) :: (.bool true : V) :: zJ 57) rfl ?_; dsimp only [zJ]
 rotate_left 1
 ·exact .bool
 refine awp_seq fun K hK => ?_
 repeat' (first | refine Zr ?_ | refine Zt ?_ | ((first | refine Zk 1 [] ?_ | refine Zk 2 [] ?_); refine Zl ?_) | (refine Yb rfl ?_ ?_ <;> intro hcnd <;> (try simp at hcnd) <;> try exact dc) | refine Zo ?_ | refine Zx ?_ | fail)
 refine hK _ _ ?_; clear hK K
 refine awp_seq fun K hK => ?_
 repeat' (first | ((first | refine Zu ?_ | (refine Zv ?_ ?_; (focus (simp; done)))); intro K9 h9; refine Zd ?_; ((first | refine acall_gen (rows' := [[.int .i64 x]]) (news := [[.osl 0 0 1 1, .int .i64 0]]) [0] [[.int .i64 x]] [[.osl 0 0 1 1, .int .i64 0]] (newP_call x) (by simp) (by simp [rowsOver, rowRen_live]) (by simp) rfl rfl (by simp [behind]) (rc := .ref 1 0) (by simp [behind]) ?_ | refine acall_gen (rows' := [[.int .i64 x], [.osl 0 0 1 1, .int .i64 1]]) (news := []) [0, 1] [[.int .i64 x], [.osl 0 0 1 1, .int .i64 1]] [] nt (by simp) (by simp [rowsOver, rowRen_live]) (by simp) rfl rfl (by simp [behind]) (rc := .int .i64 t) (by simp) ?_ | skip) <;> (refine Zf h9 ?_; clear h9 K9))) | refine Zt ?_ | ((first | refine Zk 1 [] ?_ | refine Zk 2 [] ?_); refine Zl ?_) | (refine Yb rfl ?_ ?_ <;> intro hcnd <;> (try simp at hcnd) <;> try exact dc) | refine Zo ?_ | refine Zx ?_ | fail)
 refine hK _ _ ?_; clear hK K
 repeat' (first | refine Zz 2 ?_ | refine Zz 5 ?_ | ((first | refine ZuU ?_ | (refine ZvU ?_ ?_; (focus (simp [q3, q6, q5, q9, z3, z6, z5, z9, hKy]; done)))); intro K9 h9; simp (disch := first | exact dd | fail) [q3, q6, q5, q9, z3, z6, z5, z9, hKy]; refine Zm ?_; ((first | refine Zc u5 ?_ | refine Zc an ?_ | refine Zc aw ?_ | refine Zc a0 ?_ | refine Zc k0 ?_ | refine Zc sA ?_ | refine Zc sB ?_ | refine acall_view p2 ⟨.pure (by simp), .pure .sl, view_row rfl (by simp) (by simp), .pure .int, trivial⟩ .int ?_ | skip) <;> (refine ZfU h9 ?_; clear h9 K9))) | refine ZtU ?_ | refine Y8 fun K hK => ?_ | (apply hK; clear hK K) | ((first | refine Zk (ops := #[_, _, _, _, _]) 1 [0, 1, 1, 0, 0] ?_ | refine Zk (ops := #[_, _, _, _, _]) 2 [0, 1, 1, 0, 0] ?_ | refine Zk (ops := #[_, _, _, _, _, _, _]) 1 [0, 0, 1, 1, 0, 0, 0] ?_ | refine Zk (ops := #[_, _, _, _, _, _, _]) 2 [0, 0, 1, 1, 0, 0, 0] ?_ | refine Zk 1 [] ?_ | refine Zk 2 [] ?_); refine Zl ?_) | (refine Yb rfl ?_ ?_ <;> intro hcnd <;> (try simp at hcnd) <;> try exact dc) | (refine ZnU ?_ ?_; (focus (simp [q3, q6, q5, q9, z3, z6, z5, z9, hKy]; done)); refine ZsU ?_) | refine Zx ?_ | clear hK K)
 simp
 exact .pure .bool
theorem st31 {x : Int} {t : Nat} {KY : V} {ID RT w1 t1 g1 w2 t2 g2 : List UInt8} (F : StF x t KY ID RT w1 t1 g1 w2 t2 g2) (cls : 7 ≤ t ∧ t ≤ 9) : PCall prog 6 [.int .i64 x, .bool false] (.bool true) := by
 obtain ⟨aw, u5, an, a0, k0, hKy, sA, sB, p1, p2, nt⟩ := F
 clear p2
 have q3 : 3 ≤ t := by omega
 have q6 : ¬ t ≤ 6 := by omega
 have q5 : 5 ≤ t := by omega
 have q9 : t ≤ 9 := by omega
 have z3 : (3 : Int) ≤ t := by omega
 have z6 : ¬ (t : Int) ≤ 6 := by omega
 have z5 : (5 : Int) ≤ t := by omega
 have z9 : (t : Int) ≤ 9 := by omega
 rw [if_neg (by omega)] at p1
 clear cls
 dsimp only [uC, lC, eC, List.cons_append, List.nil_append] at u5 sA sB p1
 refine pcall_body func6 rfl call6 ?_ ?_
 rotate_left 1
 refine awp_slots (s' := (.int .i64 x : V) :: (.bool false : V) :: zJ 57) rfl ?_; dsimp only [zJ]
 rotate_left 1
 ·exact .bool
 refine awp_seq fun K hK => ?_
 repeat' (first | refine Zr ?_ | refine Zt ?_ | ((first | refine Zk 1 [] ?_ | refine Zk 2 [] ?_); refine Zl ?_) | (refine Yb rfl ?_ ?_ <;> intro hcnd <;> (try simp at hcnd) <;> try exact dc) | refine Zo ?_ | refine Zx ?_ | fail)
 refine hK _ _ ?_; clear hK K
 refine awp_seq fun K hK => ?_
 repeat' (first | ((first | refine Zu ?_ | (refine Zv ?_ ?_; (focus (simp; done)))); intro K9 h9; refine Zd ?_; ((first | refine acall_gen (rows' := [[.int .i64 x]]) (news := [[.osl 0 0 1 1, .int .i64 0]]) [0] [[.int .i64 x]] [[.osl 0 0 1 1, .int .i64 0]] (newP_call x) (by simp) (by simp [rowsOver, rowRen_live]) (by simp) rfl rfl (by simp [behind]) (rc := .ref 1 0) (by simp [behind]) ?_ | refine acall_gen (rows' := [[.int .i64 x], [.osl 0 0 1 1, .int .i64 1]]) (news := []) [0, 1] [[.int .i64 x], [.osl 0 0 1 1, .int .i64 1]] [] nt (by simp) (by simp [rowsOver, rowRen_live]) (by simp) rfl rfl (by simp [behind]) (rc := .int .i64 t) (by simp) ?_ | skip) <;> (refine Zf h9 ?_; clear h9 K9))) | refine Zt ?_ | ((first | refine Zk 1 [] ?_ | refine Zk 2 [] ?_); refine Zl ?_) | (refine Yb rfl ?_ ?_ <;> intro hcnd <;> (try simp at hcnd) <;> try exact dc) | refine Zo ?_ | refine Zx ?_ | fail)
 refine hK _ _ ?_; clear hK K
 repeat' (first | refine Zz 2 ?_ | refine Zz 5 ?_ | ((first | refine ZuU ?_ | (refine ZvU ?_ ?_; (focus (simp [q3, q6, q5, q9, z3, z6, z5, z9, hKy]; done)))); intro K9 h9; simp (disch := first | exact dd | fail) [q3, q6, q5, q9, z3, z6, z5, z9, hKy]; refine Zm ?_; ((first | refine Zc u5 ?_ | refine Zc an ?_ | refine Zc aw ?_ | refine Zc a0 ?_ | refine Zc k0 ?_ | refine Zc sA ?_ | refine Zc sB ?_ | refine acall_view p1 ⟨.pure (by simp), .pure .sl, view_row rfl (by simp) (by simp), .pure .int, trivial⟩ .int ?_ | skip) <;> (refine ZfU h9 ?_; clear h9 K9))) | refine ZtU ?_ | refine Y8 fun K hK => ?_ | (apply hK; clear hK K) | ((first | refine Zk (ops := #[_, _, _, _, _]) 1 [0, 1, 1, 0, 0] ?_ | refine Zk (ops := #[_, _, _, _, _]) 2 [0, 1, 1, 0, 0] ?_ | refine Zk (ops := #[_, _, _, _, _, _, _]) 1 [0, 0, 1, 1, 0, 0, 0] ?_ | refine Zk (ops := #[_, _, _, _, _, _, _]) 2 [0, 0, 1, 1, 0, 0, 0] ?_ | refine Zk 1 [] ?_ | refine Zk 2 [] ?_); refine Zl ?_) | (refine Yb rfl ?_ ?_ <;> intro hcnd <;> (try simp at hcnd) <;> try exact dc) | (refine ZnU ?_ ?_; (focus (simp [q3, q6, q5, q9, z3, z6, z5, z9, hKy]; done)); refine ZsU ?_) | refine Zx ?_ | clear hK K)
 simp
 exact .pure .bool
theorem st32 {x : Int} {t : Nat} {KY : V} {ID RT w1 t1 g1 w2 t2 g2 : List UInt8} (F : StF x t KY ID RT w1 t1 g1 w2 t2 g2) (cls : 7 ≤ t ∧ t ≤ 9) : PCall prog 6 [.int .i64 x, .bool true] (.bool true) := by
 obtain ⟨aw, u5, an, a0, k0, hKy, sA, sB, p1, p2, nt⟩ := F
 clear p1
 have q3 : 3 ≤ t := by omega
 have q6 : ¬ t ≤ 6 := by omega
 have q5 : 5 ≤ t := by omega
 have q9 : t ≤ 9 := by omega
 have z3 : (3 : Int) ≤ t := by omega
 have z6 : ¬ (t : Int) ≤ 6 := by omega
 have z5 : (5 : Int) ≤ t := by omega
 have z9 : (t : Int) ≤ 9 := by omega
 rw [if_pos (by omega)] at p2
 clear cls
 dsimp only [uC, lC, eC, List.cons_append, List.nil_append] at u5 sA sB p2
 refine pcall_body func6 rfl call6 ?_ ?_
 rotate_left 1
 refine awp_slots (s' := (.int .i64 x : V) :: (.bool true : V) :: zJ 57) rfl ?_; dsimp only [zJ]
 rotate_left 1
 ·exact .bool
 refine awp_seq fun K hK => ?_
 repeat' (first | refine Zr ?_ | refine Zt ?_ | ((first | refine Zk 1 [] ?_ | refine Zk 2 [] ?_); refine Zl ?_) | (refine Yb rfl ?_ ?_ <;> intro hcnd <;> (try simp at hcnd) <;> try exact dc) | refine Zo ?_ | refine Zx ?_ | fail)
 refine hK _ _ ?_; clear hK K
 refine awp_seq fun K hK => ?_
 repeat' (first | ((first | refine Zu ?_ | (refine Zv ?_ ?_; (focus (simp; done)))); intro K9 h9; refine Zd ?_; ((first | refine acall_gen (rows' := [[.int .i64 x]]) (news := [[.osl 0 0 1 1, .int .i64 0]]) [0] [[.int .i64 x]] [[.osl 0 0 1 1, .int .i64 0]] (newP_call x) (by simp) (by simp [rowsOver, rowRen_live]) (by simp) rfl rfl (by simp [behind]) (rc := .ref 1 0) (by simp [behind]) ?_ | refine acall_gen (rows' := [[.int .i64 x], [.osl 0 0 1 1, .int .i64 1]]) (news := []) [0, 1] [[.int .i64 x], [.osl 0 0 1 1, .int .i64 1]] [] nt (by simp) (by simp [rowsOver, rowRen_live]) (by simp) rfl rfl (by simp [behind]) (rc := .int .i64 t) (by simp) ?_ | skip) <;> (refine Zf h9 ?_; clear h9 K9))) | refine Zt ?_ | ((first | refine Zk 1 [] ?_ | refine Zk 2 [] ?_); refine Zl ?_) | (refine Yb rfl ?_ ?_ <;> intro hcnd <;> (try simp at hcnd) <;> try exact dc) | refine Zo ?_ | refine Zx ?_ | fail)
 refine hK _ _ ?_; clear hK K
 repeat' (first | refine Zz 2 ?_ | refine Zz 5 ?_ | ((first | refine ZuU ?_ | (refine ZvU ?_ ?_; (focus (simp [q3, q6, q5, q9, z3, z6, z5, z9, hKy]; done)))); intro K9 h9; simp (disch := first | exact dd | fail) [q3, q6, q5, q9, z3, z6, z5, z9, hKy]; refine Zm ?_; ((first | refine Zc u5 ?_ | refine Zc an ?_ | refine Zc aw ?_ | refine Zc a0 ?_ | refine Zc k0 ?_ | refine Zc sA ?_ | refine Zc sB ?_ | refine acall_view p2 ⟨.pure (by simp), .pure .sl, view_row rfl (by simp) (by simp), .pure .int, trivial⟩ .int ?_ | skip) <;> (refine ZfU h9 ?_; clear h9 K9))) | refine ZtU ?_ | refine Y8 fun K hK => ?_ | (apply hK; clear hK K) | ((first | refine Zk (ops := #[_, _, _, _, _]) 1 [0, 1, 1, 0, 0] ?_ | refine Zk (ops := #[_, _, _, _, _]) 2 [0, 1, 1, 0, 0] ?_ | refine Zk (ops := #[_, _, _, _, _, _, _]) 1 [0, 0, 1, 1, 0, 0, 0] ?_ | refine Zk (ops := #[_, _, _, _, _, _, _]) 2 [0, 0, 1, 1, 0, 0, 0] ?_ | refine Zk 1 [] ?_ | refine Zk 2 [] ?_); refine Zl ?_) | (refine Yb rfl ?_ ?_ <;> intro hcnd <;> (try simp at hcnd) <;> try exact dc) | (refine ZnU ?_ ?_; (focus (simp [q3, q6, q5, q9, z3, z6, z5, z9, hKy]; done)); refine ZsU ?_) | refine Zx ?_ | clear hK K)
 simp
 exact .pure .bool
theorem st41 {x : Int} {t : Nat} {KY : V} {ID RT w1 t1 g1 w2 t2 g2 : List UInt8} (F : StF x t KY ID RT w1 t1 g1 w2 t2 g2) (cls : 10 ≤ t) : PCall prog 6 [.int .i64 x, .bool false] (.bool true) := by
 obtain ⟨aw, u5, an, a0, k0, hKy, sA, sB, p1, p2, nt⟩ := F
 clear p2
 have q3 : 3 ≤ t := by omega
 have q6 : ¬ t ≤ 6 := by omega
 have q5 : 5 ≤ t := by omega
 have q9 : ¬ t ≤ 9 := by omega
 have z3 : (3 : Int) ≤ t := by omega
 have z6 : ¬ (t : Int) ≤ 6 := by omega
 have z5 : (5 : Int) ≤ t := by omega
 have z9 : ¬ (t : Int) ≤ 9 := by omega
 rw [if_neg (by omega)] at p1
 clear cls
 dsimp only [uC, lC, eC, List.cons_append, List.nil_append] at u5 sA sB p1
 refine pcall_body func6 rfl call6 ?_ ?_
 rotate_left 1
 refine awp_slots (s' := (.int .i64 x : V) :: (.bool false : V) :: zJ 57) rfl ?_; dsimp only [zJ]
 rotate_left 1
 ·exact .bool
 refine awp_seq fun K hK => ?_
 repeat' (first | refine Zr ?_ | refine Zt ?_ | ((first | refine Zk 1 [] ?_ | refine Zk 2 [] ?_); refine Zl ?_) | (refine Yb rfl ?_ ?_ <;> intro hcnd <;> (try simp at hcnd) <;> try exact dc) | refine Zo ?_ | refine Zx ?_ | fail)
 refine hK _ _ ?_; clear hK K
 refine awp_seq fun K hK => ?_
 repeat' (first | ((first | refine Zu ?_ | (refine Zv ?_ ?_; (focus (simp; done)))); intro K9 h9; refine Zd ?_; ((first | refine acall_gen (rows' := [[.int .i64 x]]) (news := [[.osl 0 0 1 1, .int .i64 0]]) [0] [[.int .i64 x]] [[.osl 0 0 1 1, .int .i64 0]] (newP_call x) (by simp) (by simp [rowsOver, rowRen_live]) (by simp) rfl rfl (by simp [behind]) (rc := .ref 1 0) (by simp [behind]) ?_ | refine acall_gen (rows' := [[.int .i64 x], [.osl 0 0 1 1, .int .i64 1]]) (news := []) [0, 1] [[.int .i64 x], [.osl 0 0 1 1, .int .i64 1]] [] nt (by simp) (by simp [rowsOver, rowRen_live]) (by simp) rfl rfl (by simp [behind]) (rc := .int .i64 t) (by simp) ?_ | skip) <;> (refine Zf h9 ?_; clear h9 K9))) | refine Zt ?_ | ((first | refine Zk 1 [] ?_ | refine Zk 2 [] ?_); refine Zl ?_) | (refine Yb rfl ?_ ?_ <;> intro hcnd <;> (try simp at hcnd) <;> try exact dc) | refine Zo ?_ | refine Zx ?_ | fail)
 refine hK _ _ ?_; clear hK K
 repeat' (first | refine Zz 2 ?_ | refine Zz 5 ?_ | ((first | refine ZuU ?_ | (refine ZvU ?_ ?_; (focus (simp [q3, q6, q5, q9, z3, z6, z5, z9, hKy]; done)))); intro K9 h9; simp (disch := first | exact dd | fail) [q3, q6, q5, q9, z3, z6, z5, z9, hKy]; refine Zm ?_; ((first | refine Zc u5 ?_ | refine Zc an ?_ | refine Zc aw ?_ | refine Zc a0 ?_ | refine Zc k0 ?_ | refine Zc sA ?_ | refine Zc sB ?_ | refine acall_view p1 ⟨.pure (by simp), .pure .sl, view_row rfl (by simp) (by simp), .pure .int, trivial⟩ .int ?_ | skip) <;> (refine ZfU h9 ?_; clear h9 K9))) | refine ZtU ?_ | refine Y8 fun K hK => ?_ | (apply hK; clear hK K) | ((first | refine Zk (ops := #[_, _, _, _, _]) 1 [0, 1, 1, 0, 0] ?_ | refine Zk (ops := #[_, _, _, _, _]) 2 [0, 1, 1, 0, 0] ?_ | refine Zk (ops := #[_, _, _, _, _, _, _]) 1 [0, 0, 1, 1, 0, 0, 0] ?_ | refine Zk (ops := #[_, _, _, _, _, _, _]) 2 [0, 0, 1, 1, 0, 0, 0] ?_ | refine Zk 1 [] ?_ | refine Zk 2 [] ?_); refine Zl ?_) | (refine Yb rfl ?_ ?_ <;> intro hcnd <;> (try simp at hcnd) <;> try exact dc) | (refine ZnU ?_ ?_; (focus (simp [q3, q6, q5, q9, z3, z6, z5, z9, hKy]; done)); refine ZsU ?_) | refine Zx ?_ | clear hK K)
 simp
 exact .pure .bool
theorem st42 {x : Int} {t : Nat} {KY : V} {ID RT w1 t1 g1 w2 t2 g2 : List UInt8} (F : StF x t KY ID RT w1 t1 g1 w2 t2 g2) (cls : 10 ≤ t) : PCall prog 6 [.int .i64 x, .bool true] (.bool true) := by
 obtain ⟨aw, u5, an, a0, k0, hKy, sA, sB, p1, p2, nt⟩ := F
 clear p1
 have q3 : 3 ≤ t := by omega
 have q6 : ¬ t ≤ 6 := by omega
 have q5 : 5 ≤ t := by omega
 have q9 : ¬ t ≤ 9 := by omega
 have z3 : (3 : Int) ≤ t := by omega
 have z6 : ¬ (t : Int) ≤ 6 := by omega
 have z5 : (5 : Int) ≤ t := by omega
 have z9 : ¬ (t : Int) ≤ 9 := by omega
 rw [if_neg (by omega), if_neg (by omega)] at p2
 clear cls
 dsimp only [uC, lC, eC, List.cons_append, List.nil_append] at u5 sA sB p2
 refine pcall_body func6 rfl call6 ?_ ?_
 rotate_left 1
 refine awp_slots (s' := (.int .i64 x : V) :: (.bool true : V) :: zJ 57) rfl ?_; dsimp only [zJ]
 rotate_left 1
 ·exact .bool
 refine awp_seq fun K hK => ?_
 repeat' (first | refine Zr ?_ | refine Zt ?_ | ((first | refine Zk 1 [] ?_ | refine Zk 2 [] ?_); refine Zl ?_) | (refine Yb rfl ?_ ?_ <;> intro hcnd <;> (try simp at hcnd) <;> try exact dc) | refine Zo ?_ | refine Zx ?_ | fail)
 refine hK _ _ ?_; clear hK K
 refine awp_seq fun K hK => ?_
 repeat' (first | ((first | refine Zu ?_ | (refine Zv ?_ ?_; (focus (simp; done)))); intro K9 h9; refine Zd ?_; ((first | refine acall_gen (rows' := [[.int .i64 x]]) (news := [[.osl 0 0 1 1, .int .i64 0]]) [0] [[.int .i64 x]] [[.osl 0 0 1 1, .int .i64 0]] (newP_call x) (by simp) (by simp [rowsOver, rowRen_live]) (by simp) rfl rfl (by simp [behind]) (rc := .ref 1 0) (by simp [behind]) ?_ | refine acall_gen (rows' := [[.int .i64 x], [.osl 0 0 1 1, .int .i64 1]]) (news := []) [0, 1] [[.int .i64 x], [.osl 0 0 1 1, .int .i64 1]] [] nt (by simp) (by simp [rowsOver, rowRen_live]) (by simp) rfl rfl (by simp [behind]) (rc := .int .i64 t) (by simp) ?_ | skip) <;> (refine Zf h9 ?_; clear h9 K9))) | refine Zt ?_ | ((first | refine Zk 1 [] ?_ | refine Zk 2 [] ?_); refine Zl ?_) | (refine Yb rfl ?_ ?_ <;> intro hcnd <;> (try simp at hcnd) <;> try exact dc) | refine Zo ?_ | refine Zx ?_ | fail)
 refine hK _ _ ?_; clear hK K
 repeat' (first | refine Zz 2 ?_ | refine Zz 5 ?_ | ((first | refine ZuU ?_ | (refine ZvU ?_ ?_; (focus (simp [q3, q6, q5, q9, z3, z6, z5, z9, hKy]; done)))); intro K9 h9; simp (disch := first | exact dd | fail) [q3, q6, q5, q9, z3, z6, z5, z9, hKy]; refine Zm ?_; ((first | refine Zc u5 ?_ | refine Zc an ?_ | refine Zc aw ?_ | refine Zc a0 ?_ | refine Zc k0 ?_ | refine Zc sA ?_ | refine Zc sB ?_ | refine acall_view p2 ⟨.pure (by simp), .pure .sl, view_row rfl (by simp) (by simp), .pure .int, trivial⟩ .int ?_ | skip) <;> (refine ZfU h9 ?_; clear h9 K9))) | refine ZtU ?_ | refine Y8 fun K hK => ?_ | (apply hK; clear hK K) | ((first | refine Zk (ops := #[_, _, _, _, _]) 1 [0, 1, 1, 0, 0] ?_ | refine Zk (ops := #[_, _, _, _, _]) 2 [0, 1, 1, 0, 0] ?_ | refine Zk (ops := #[_, _, _, _, _, _, _]) 1 [0, 0, 1, 1, 0, 0, 0] ?_ | refine Zk (ops := #[_, _, _, _, _, _, _]) 2 [0, 0, 1, 1, 0, 0, 0] ?_ | refine Zk 1 [] ?_ | refine Zk 2 [] ?_); refine Zl ?_) | (refine Yb rfl ?_ ?_ <;> intro hcnd <;> (try simp at hcnd) <;> try exact dc) | (refine ZnU ?_ ?_; (focus (simp [q3, q6, q5, q9, z3, z6, z5, z9, hKy]; done)); refine ZsU ?_) | refine Zx ?_ | clear hK K)
 simp
 exact .pure .bool
theorem stale_call (x : Int) (delta : Bool) (hx : -9223372036854775808 ≤ x ∧ x ≤ 9223372036854775807) : PCall prog 6 [.int .i64 x, .bool delta] (.bool true) := by
 obtain ⟨t, KY, ID, RT, w1, t1, g1, w2, t2, g2, F⟩ := stF x hx
 have cls : t < 3 ∨ (3 ≤ t ∧ t < 5) ∨ (5 ≤ t ∧ t ≤ 6) ∨ (7 ≤ t ∧ t ≤ 9) ∨ 10 ≤ t := by omega
 rcases cls with cls | cls | cls | cls | cls <;> cases delta
 ·exact st01 F cls
 ·exact st02 F cls
 ·exact st11 F cls
 ·exact st12 F cls
 ·exact st21 F cls
 ·exact st22 F cls
 ·exact st31 F cls
 ·exact st32 F cls
 ·exact st41 F cls
 ·exact st42 F cls
theorem fitsB {P : Program} {t : TypeId} {f : Nat} {x : V} (ht : P.underlying t = some .bool) (h : FitsV P (f + 1) t x) : ∃ b, x = .bool b := by
 simpa [FitsV, ht, Fits] using h
theorem stale_fits : ∀ xs, FitsAll prog 8 Tryz.f6.params.toList xs → PCall prog 6 xs (.bool true) := by
 intro xs h
 rw [show Tryz.f6.params.toList = [3, 4] by kernel_rfl] at h
 obtain ⟨x1, xs, rfl, h1, h⟩ := fitsAll_cons h
 obtain ⟨x2, xs, rfl, h2, h⟩ := fitsAll_cons h
 obtain rfl := fitsAll_nil h
 obtain ⟨n, hn, rfl⟩ := fits_int (by kernel_rfl) h1
 obtain ⟨b, rfl⟩ := fitsB (by kernel_rfl) h2
 exact stale_call n b hn
end Go.Proofs.YtnpndfmbkmbhbaaGreatDoor

