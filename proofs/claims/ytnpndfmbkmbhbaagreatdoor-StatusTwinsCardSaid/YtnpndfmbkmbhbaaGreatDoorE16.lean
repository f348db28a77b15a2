/-
 STATUS: StatusTwins.
 Conditions: none.
-/
import Derived.Test.YtnpndfmbkmbhbaaGreatDoorEe
set_option maxRecDepth 100000
set_option maxHeartbeats 32000000
set_option linter.all false
namespace Go.Proofs.YtnpndfmbkmbhbaaGreatDoor
open Go.Proofs.Tryz
open Go.VS Go.Stp Go.Der Go.Sta
attribute [local irreducible] arun arunD arunU AWp aend verE wr DU.arunD
attribute [local simp] DU.gval
def eC (s r : Int) : V := .sl 1 [.int .i64 s, .int .i64 0, .int .i64 r, .int .i64 (-1), nmV (authN 0)]
def uC (p : V) : List V := [.str [], .str [], .int .i64 5, nmV (authN 0), .sl 0 [], .int .i64 0, .int .i64 0, .int .i64 0, .str [], .str [], .bool false, .bool false, .int .i64 0, .int .i64 0, .sl 0 [], .sl 0 [], .sl 0 [], .int .i64 0, .int .i64 0, .int .i64 0, .sl 0 [], .bool false, .sl 0 [], .sl 0 [], .str [], .str [], p, .sl 0 [], .sl 0 [], .str []]
def lC (raw tbs : List UInt8) (I : V) (a b n c : Int) (has : Bool) (rea : Int) (ind : Bool) (En : V) (sg : List UInt8) (z : V) : List V := [.str raw, .str tbs, I, .int .i64 a, .int .i64 b, .int .i64 n, .int .i64 c, .str [], .bool has, z, .bool false, .bool false, .int .i64 rea, .bool ind, z, En, .str sg]
abbrev tA (n r : Nat) : Ml := mlS n .N (some (5, r, authV 0))
abbrev tB (n : Nat) : Ml := mlS n .N (some (6, 1, authV 0))
abbrev I64 (x : Int) : Prop := -9223372036854775808 ≤ x ∧ x ≤ 9223372036854775807
theorem tw0 : PCall prog 14 [.int .i64 5] (.agg (uC (.sl 0 []))) ∧ PCall prog 12 [.int .i64 0] (.agg [nmV (authN 0), .int .i64 0, .str (pubK 0).id, .str (pubK 0).root]) ∧ ∀ s ∈ [anc 0], WAn s := ⟨user_call 5, anchor_call 0 (by omega), fun s hs => by simp at hs; subst hs; exact anc_w 0⟩
theorem tw1 (y : Int) (hy : I64 y) : ∃ d nn : Nat, GCall prog 10 [.ref 1 0, .int .i64 (9 : Nat)] [[.int .i64 y], [.osl 0 0 1 1, .int .i64 0]] ([[.int .i64 y], [.osl 0 0 1 1, .int .i64 1]] ++ []) (.int .i64 d) ∧ (1 : Int) + (d : Int) = (nn : Int) ∧ nn < 100 := by
 have hbd := dkX_bounds (l := [y]) (a := 0) (n := 9) (by omega)
 obtain ⟨d, ed, ld⟩ : ∃ k : Nat, dkX [y] 0 9 = k ∧ k < 9 := ⟨(dkX [y] 0 9).toNat, by omega, by omega⟩
 have nd := nextP_call y 9 hy (by omega) (by omega)
 rw [ed] at nd
 clear hbd ed
 exact ⟨d, 1 + d, nd, by omega, by omega⟩
theorem twins00_call (x : Int) (y : Int) (hx : I64 x) (hy : I64 y) (hk : dkX [x] 0 3 = 0) : PCall prog 3 [.int .i64 x, .bool false, .int .i64 y] (.bool true) := by
 have aw := awake28_call
 obtain ⟨u5, an, w1⟩ := tw0
 obtain ⟨d, nn, nd, e1, lnn⟩ := tw1 y hy
 have nk := nextP_call x 3 hx (by omega) (by omega)
 rw [hk] at nk
 clear hk
 have kA : MlOk (tA nn 1) := mlS_okE nn .N 5 1 lnn (.inl rfl) (by omega) (by omega) (by omega)
 have kB : MlOk (tB nn) := mlS_okE nn .N 6 1 lnn (.inl rfl) (by omega) (by omega) (by omega)
 have sA : PCall prog 11 [.int .i64 nn, .int .i64 (-1), .int .i64 5, .int .i64 1] (.agg (lC ((tA nn 1).raw 0) (tA nn 1).tbs (nmV (authN 0)) 1 9 nn (-1) false 0 false (eC 5 1) ((tA nn 1).sgn 0) (.sl 0 []))) := signedE_call 5 1 nn .N (.inl rfl) kA
 have sB : PCall prog 11 [.int .i64 nn, .int .i64 (-1), .int .i64 6, .int .i64 1] (.agg (lC ((tB nn).raw 0) (tB nn).tbs (nmV (authN 0)) 1 9 nn (-1) false 0 false (eC 6 1) ((tB nn).sgn 0) (.sl 0 []))) := signedE_call 6 1 nn .N (.inl rfl) kB
 have ev : evid (uce 5 []) [anc 0] [(tA nn 1).done 0, (tB nn).done 0] 5 = [((0 : Int), -1), (1, -1)] := ev_own (mlS_own nn .N _ (.inl rfl)) (mlS_own nn .N _ (.inl rfl)) rfl rfl 5 5 rfl ⟨by show (1 : Int) ≤ 5; omega, by show (5 : Int) ≤ 9; omega⟩ ⟨by show (1 : Int) ≤ 5; omega, by show (5 : Int) ≤ 9; omega⟩
 have p : PCall prog 13 [.agg (uC (.sl 0 [])), .sl 1 [nmV (authN 0), .int .i64 0, .str (pubK 0).id, .str (pubK 0).root], .sl 2 (lC ((tA nn 1).raw 0) (tA nn 1).tbs (nmV (authN 0)) 1 9 nn (-1) false 0 false (eC 5 1) ((tA nn 1).sgn 0) (.sl 0 []) ++ lC ((tB nn).raw 0) (tB nn).tbs (nmV (authN 0)) 1 9 nn (-1) false 0 false (eC 6 1) ((tB nn).sgn 0) (.sl 0 [])), .int .i64 5] (.int .i64 2) := by
  have h := of_call (uce 5 []) [anc 0] [(tA nn 1).done 0, (tB nn).done 0] 5 (uce_w 5 (by simp) (by simp; exact ⟨done_wst kA 0, done_wst kB 0⟩)) (by simp) w1 (by simp)
  have hv : ofB (uce 5 []) [anc 0] [(tA nn 1).done 0, (tB nn).done 0] 5 = 2 := by
   rw [of_ev2 ev (own_mask (mlS_own nn .N _ (.inl rfl)) 5) (own_mask (mlS_own nn .N _ (.inl rfl)) 5), fnd_some (m := (tA nn 1)) (s := 5) (r := 1) (w := authV 0) rfl rfl n00, fnd_other (m := (tB nn)) (s := 6) (r := 1) (w := authV 0) rfl (by decide)]
   rfl
  rw [hv] at h
  exact h
 have q : PCall prog 15 [.agg (uC (.sl 0 [])), .sl 1 [nmV (authN 0), .int .i64 0, .str (pubK 0).id, .str (pubK 0).root], .sl 2 (lC ((tA nn 1).raw 0) (tA nn 1).tbs (nmV (authN 0)) 1 9 nn (-1) false 0 false (eC 5 1) ((tA nn 1).sgn 0) (.sl 0 []) ++ lC ((tB nn).raw 0) (tB nn).tbs (nmV (authN 0)) 1 9 nn (-1) false 0 false (eC 6 1) ((tB nn).sgn 0) (.sl 0 [])), .int .i64 5] (.sl 2 [.int .i64 0, .int .i64 (-1), .int .i64 1, .int .i64 (-1)]) := by
  have h := evid_call (uce 5 []) [anc 0] [(tA nn 1).done 0, (tB nn).done 0] 5 (uce_w 5 (by simp) (by simp; exact ⟨done_wst kA 0, done_wst kB 0⟩)) (by simp) w1 (by simp)
  rw [ev] at h
  exact h
 clear w1 kA kB ev
 generalize (tA nn 1).raw 0 = w1 at *
 generalize (tA nn 1).tbs = t1 at *
 generalize (tA nn 1).sgn 0 = g1 at *
 generalize (tB nn).raw 0 = w2 at *
 generalize (tB nn).tbs = t2 at *
 generalize (tB nn).sgn 0 = g2 at *
 generalize (pubK 0).id = ID at *
 generalize (pubK 0).root = RT at *
 dsimp only [uC, lC, eC, List.cons_append, List.nil_append] at u5 sA sB p q
 refine pcall_body func3 rfl call3 ?_ ?_
 rotate_left 1
 refine awp_slots (s' := (.int .i64 x : V) :: (.bool false : V) :: (.int .i64 y : V) :: zJ 56) rfl ?_; dsimp only [zJ]
 rotate_left 1
 ·exact .bool
 refine awp_seq fun K hK => ?_
 repeat' (first | refine Zr ?_ | refine Zt ?_ | (refine Zk 1 [] ?_; refine Zl ?_) | (refine Yb rfl ?_ ?_ <;> intro hcnd <;> (try simp at hcnd) <;> try exact dc) | refine Zo ?_ | refine Zx ?_ | fail)
 refine hK _ _ ?_; clear hK K
 refine awp_seq fun K hK => ?_
 repeat' (first | ((first | refine Zu ?_ | (refine Zv ?_ ?_; (focus (simp; done)))); intro K9 h9; refine Zd ?_; ((first | refine acall_gen (rows' := [[.int .i64 y]]) (news := [[.osl 0 0 1 1, .int .i64 0]]) [0] [[.int .i64 y]] [[.osl 0 0 1 1, .int .i64 0]] (newP_call y) (by simp) (by simp [rowsOver, rowRen_live]) (by simp) rfl rfl (by simp [behind]) (rc := .ref 1 0) (by simp [behind]) ?_ | refine acall_gen (rows' := [[.int .i64 y], [.osl 0 0 1 1, .int .i64 1]]) (news := []) [0, 1] [[.int .i64 y], [.osl 0 0 1 1, .int .i64 1]] [] nd (by simp) (by simp [rowsOver, rowRen_live]) (by simp) rfl rfl (by simp [behind]) (rc := .int .i64 d) (by simp) ?_ | skip) <;> (refine Zf h9 ?_; clear h9 K9))) | refine Zt ?_ | (refine Zk 1 [] ?_; refine Zl ?_) | (refine Yb rfl ?_ ?_ <;> intro hcnd <;> (try simp at hcnd) <;> try exact dc) | refine Zo ?_ | refine Zx ?_ | fail)
 refine hK _ _ ?_; clear hK K
 simp only [e1]
 refine awp_seq fun K hK => ?_
 repeat' (first | ((first | refine Zu ?_ | (refine Zv ?_ ?_; (focus (simp; done)))); intro K9 h9; refine Zd ?_; ((first | refine acall_gen (rows' := [[.int .i64 x]]) (news := [[.osl 0 0 1 1, .int .i64 0]]) [2] [[.int .i64 x]] [[.osl 2 0 1 1, .int .i64 0]] (newP_call x) (by simp) (by simp [rowsOver, rowRen_live]) (by simp) rfl rfl (by simp [behind]) (rc := .ref 3 0) (by simp [behind]) ?_ | refine acall_gen (rows' := [[.int .i64 x], [.osl 0 0 1 1, .int .i64 1]]) (news := []) [2, 3] [[.int .i64 x], [.osl 2 0 1 1, .int .i64 1]] [] nk (by simp) (by simp [rowsOver, rowRen_live]) (by simp) rfl rfl (by simp [behind]) (rc := .int .i64 0) (by simp) ?_ | skip) <;> (refine Zf h9 ?_; clear h9 K9))) | refine Zt ?_ | (refine Zk 1 [] ?_; refine Zl ?_) | (refine Yb rfl ?_ ?_ <;> intro hcnd <;> (try simp at hcnd) <;> try exact dc) | refine Zo ?_ | refine Zx ?_ | fail)
 refine hK _ _ ?_; clear hK K
 repeat' (first | refine Zz 7 ?_ | refine Zz 8 ?_ | ((first | refine ZuD ?_ | (refine ZvD ?_ ?_; (focus (simp; done)))); intro K9 h9; refine Zd ?_; ((first | refine Zc u5 ?_ | refine Zc an ?_ | refine Zc aw ?_ | refine Zc sA ?_ | refine Zc sB ?_ | refine Zc p ?_ | refine Zc q ?_ | skip) <;> (refine ZfD h9 ?_; clear h9 K9))) | refine ZtD ?_ | refine Y8 fun K hK => ?_ | (apply hK; clear hK K) | ((first | refine DU.Zk (ops := #[_, _, _, _, _, _, _, _, _, _, _, _, _, _, _, _, _, _, _, _, _]) 1 [1, 0, 0, 1, 0, 0, 0, 0, 0, 0, 1, 0, 0, 1, 0, 0, 0, 0, 1, 0, 0] ?_ | refine DU.Zk 1 [] ?_); refine Zl ?_) | (refine Yb rfl ?_ ?_ <;> intro hcnd <;> (try simp at hcnd) <;> try exact dc) | refine ZoD ?_ | refine Zx ?_ | clear hK K)
 simp
 exact .pure .bool
theorem twins01_call (x : Int) (y : Int) (hx : I64 x) (hy : I64 y) (hk : dkX [x] 0 3 = 0) : PCall prog 3 [.int .i64 x, .bool true, .int .i64 y] (.bool true) := by
 have aw := awake28_call
 obtain ⟨u5, an, w1⟩ := tw0
 obtain ⟨d, nn, nd, e1, lnn⟩ := tw1 y hy
 have nk := nextP_call x 3 hx (by omega) (by omega)
 rw [hk] at nk
 clear hk
 have kA : MlOk (tA nn 1) := mlS_okE nn .N 5 1 lnn (.inl rfl) (by omega) (by omega) (by omega)
 have kB : MlOk (tB nn) := mlS_okE nn .N 6 1 lnn (.inl rfl) (by omega) (by omega) (by omega)
 have sA : PCall prog 11 [.int .i64 nn, .int .i64 (-1), .int .i64 5, .int .i64 1] (.agg (lC ((tA nn 1).raw 0) (tA nn 1).tbs (nmV (authN 0)) 1 9 nn (-1) false 0 false (eC 5 1) ((tA nn 1).sgn 0) (.sl 0 []))) := signedE_call 5 1 nn .N (.inl rfl) kA
 have sB : PCall prog 11 [.int .i64 nn, .int .i64 (-1), .int .i64 6, .int .i64 1] (.agg (lC ((tB nn).raw 0) (tB nn).tbs (nmV (authN 0)) 1 9 nn (-1) false 0 false (eC 6 1) ((tB nn).sgn 0) (.sl 0 []))) := signedE_call 6 1 nn .N (.inl rfl) kB
 have ev : evid (uce 5 []) [anc 0] [(tB nn).done 0, (tA nn 1).done 0] 5 = [((0 : Int), -1), (1, -1)] := ev_own (mlS_own nn .N _ (.inl rfl)) (mlS_own nn .N _ (.inl rfl)) rfl rfl 5 5 rfl ⟨by show (1 : Int) ≤ 5; omega, by show (5 : Int) ≤ 9; omega⟩ ⟨by show (1 : Int) ≤ 5; omega, by show (5 : Int) ≤ 9; omega⟩
 have p : PCall prog 13 [.agg (uC (.sl 0 [])), .sl 1 [nmV (authN 0), .int .i64 0, .str (pubK 0).id, .str (pubK 0).root], .sl 2 (lC ((tB nn).raw 0) (tB nn).tbs (nmV (authN 0)) 1 9 nn (-1) false 0 false (eC 6 1) ((tB nn).sgn 0) (.sl 0 []) ++ lC ((tA nn 1).raw 0) (tA nn 1).tbs (nmV (authN 0)) 1 9 nn (-1) false 0 false (eC 5 1) ((tA nn 1).sgn 0) (.sl 0 [])), .int .i64 5] (.int .i64 2) := by
  have h := of_call (uce 5 []) [anc 0] [(tB nn).done 0, (tA nn 1).done 0] 5 (uce_w 5 (by simp) (by simp; exact ⟨done_wst kB 0, done_wst kA 0⟩)) (by simp) w1 (by simp)
  have hv : ofB (uce 5 []) [anc 0] [(tB nn).done 0, (tA nn 1).done 0] 5 = 2 := by
   rw [of_ev2 ev (own_mask (mlS_own nn .N _ (.inl rfl)) 5) (own_mask (mlS_own nn .N _ (.inl rfl)) 5), fnd_some (m := (tA nn 1)) (s := 5) (r := 1) (w := authV 0) rfl rfl n00, fnd_other (m := (tB nn)) (s := 6) (r := 1) (w := authV 0) rfl (by decide)]
   rfl
  rw [hv] at h
  exact h
 have q : PCall prog 15 [.agg (uC (.sl 0 [])), .sl 1 [nmV (authN 0), .int .i64 0, .str (pubK 0).id, .str (pubK 0).root], .sl 2 (lC ((tB nn).raw 0) (tB nn).tbs (nmV (authN 0)) 1 9 nn (-1) false 0 false (eC 6 1) ((tB nn).sgn 0) (.sl 0 []) ++ lC ((tA nn 1).raw 0) (tA nn 1).tbs (nmV (authN 0)) 1 9 nn (-1) false 0 false (eC 5 1) ((tA nn 1).sgn 0) (.sl 0 [])), .int .i64 5] (.sl 2 [.int .i64 0, .int .i64 (-1), .int .i64 1, .int .i64 (-1)]) := by
  have h := evid_call (uce 5 []) [anc 0] [(tB nn).done 0, (tA nn 1).done 0] 5 (uce_w 5 (by simp) (by simp; exact ⟨done_wst kB 0, done_wst kA 0⟩)) (by simp) w1 (by simp)
  rw [ev] at h
  exact h
 clear w1 kA kB ev
 generalize (tA nn 1).raw 0 = w1 at *
 generalize (tA nn 1).tbs = t1 at *
 generalize (tA nn 1).sgn 0 = g1 at *
 generalize (tB nn).raw 0 = w2 at *
 generalize (tB nn).tbs = t2 at *
 generalize (tB nn).sgn 0 = g2 at *
 generalize (pubK 0).id = ID at *
 generalize (pubK 0).root = RT at *
 dsimp only [uC, lC, eC, List.cons_append, List.nil_append] at u5 sA sB p q
 refine pcall_body func3 rfl call3 ?_ ?_
 rotate_left 1
 refine awp_slots (s' := (.int .i64 x : V) :: (.bool true : V) :: (.int .i64 y : V) :: zJ 56) rfl ?_; dsimp only [zJ]
 rotate_left 1
 ·exact .bool
 refine awp_seq fun K hK => ?_
 repeat' (first | refine Zr ?_ | refine Zt ?_ | (refine Zk 1 [] ?_; refine Zl ?_) | (refine Yb rfl ?_ ?_ <;> intro hcnd <;> (try simp at hcnd) <;> try exact dc) | refine Zo ?_ | refine Zx ?_ | fail)
 refine hK _ _ ?_; clear hK K
 refine awp_seq fun K hK => ?_
 repeat' (first | ((first | refine Zu ?_ | (refine Zv ?_ ?_; (focus (simp; done)))); intro K9 h9; refine Zd ?_; ((first | refine acall_gen (rows' := [[.int .i64 y]]) (news := [[.osl 0 0 1 1, .int .i64 0]]) [0] [[.int .i64 y]] [[.osl 0 0 1 1, .int .i64 0]] (newP_call y) (by simp) (by simp [rowsOver, rowRen_live]) (by simp) rfl rfl (by simp [behind]) (rc := .ref 1 0) (by simp [behind]) ?_ | refine acall_gen (rows' := [[.int .i64 y], [.osl 0 0 1 1, .int .i64 1]]) (news := []) [0, 1] [[.int .i64 y], [.osl 0 0 1 1, .int .i64 1]] [] nd (by simp) (by simp [rowsOver, rowRen_live]) (by simp) rfl rfl (by simp [behind]) (rc := .int .i64 d) (by simp) ?_ | skip) <;> (refine Zf h9 ?_; clear h9 K9))) | refine Zt ?_ | (refine Zk 1 [] ?_; refine Zl ?_) | (refine Yb rfl ?_ ?_ <;> intro hcnd <;> (try simp at hcnd) <;> try exact dc) | refine Zo ?_ | refine Zx ?_ | fail)
 refine hK _ _ ?_; clear hK K
 simp only [e1]
 refine awp_seq fun K hK => ?_
 repeat' (first | ((first | refine Zu ?_ | (refine Zv ?_ ?_; (focus (simp; done)))); intro K9 h9; refine Zd ?_; ((first | refine acall_gen (rows' := [[.int .i64 x]]) (news := [[.osl 0 0 1 1, .int .i64 0]]) [2] [[.int .i64 x]] [[.osl 2 0 1 1, .int .i64 0]] (newP_call x) (by simp) (by simp [rowsOver, rowRen_live]) (by simp) rfl rfl (by simp [behind]) (rc := .ref 3 0) (by simp [behind]) ?_ | refine acall_gen (rows' := [[.int .i64 x], [.osl 0 0 1 1, .int .i64 1]]) (news := []) [2, 3] [[.int .i64 x], [.osl 2 0 1 1, .int .i64 1]] [] nk (by simp) (by simp [rowsOver, rowRen_live]) (by simp) rfl rfl (by simp [behind]) (rc := .int .i64 0) (by simp) ?_ | skip) <;> (refine Zf h9 ?_; clear h9 K9))) | refine Zt ?_ | (refine Zk 1 [] ?_; refine Zl ?_) | (refine Yb rfl ?_ ?_ <;> intro hcnd <;> (try simp at hcnd) <;> try exact dc) | refine Zo ?_ | refine Zx ?_ | fail)
 refine hK _ _ ?_; clear hK K
 repeat' (first | refine Zz 7 ?_ | refine Zz 8 ?_ | refine Zz 9 ?_ | ((first | refine ZuD ?_ | (refine ZvD ?_ ?_; (focus (simp; done)))); intro K9 h9; refine Zd ?_; ((first | refine Zc u5 ?_ | refine Zc an ?_ | refine Zc aw ?_ | refine Zc sA ?_ | refine Zc sB ?_ | refine Zc p ?_ | refine Zc q ?_ | skip) <;> (refine ZfD h9 ?_; clear h9 K9))) | refine ZtD ?_ | refine Y8 fun K hK => ?_ | (apply hK; clear hK K) | ((first | refine DU.Zk (ops := #[_, _, _, _, _, _, _, _, _, _, _, _, _, _, _, _, _, _, _, _, _]) 1 [1, 0, 0, 1, 0, 0, 0, 0, 0, 0, 1, 0, 0, 1, 0, 0, 0, 0, 1, 0, 0] ?_ | refine DU.Zk 1 [] ?_); refine Zl ?_) | (refine Yb rfl ?_ ?_ <;> intro hcnd <;> (try simp at hcnd) <;> try exact dc) | refine ZoD ?_ | refine Zx ?_ | clear hK K)
 simp
 exact .pure .bool
theorem twins10_call (x : Int) (y : Int) (hx : I64 x) (hy : I64 y) (hk : dkX [x] 0 3 = 1) : PCall prog 3 [.int .i64 x, .bool false, .int .i64 y] (.bool true) := by
 have aw := awake28_call
 obtain ⟨u5, an, w1⟩ := tw0
 obtain ⟨d, nn, nd, e1, lnn⟩ := tw1 y hy
 have nk := nextP_call x 3 hx (by omega) (by omega)
 rw [hk] at nk
 clear hk
 have kA : MlOk (tA nn 6) := mlS_okE nn .N 5 6 lnn (.inl rfl) (by omega) (by omega) (by omega)
 have kB : MlOk (tB nn) := mlS_okE nn .N 6 1 lnn (.inl rfl) (by omega) (by omega) (by omega)
 have sA : PCall prog 11 [.int .i64 nn, .int .i64 (-1), .int .i64 5, .int .i64 6] (.agg (lC ((tA nn 6).raw 0) (tA nn 6).tbs (nmV (authN 0)) 1 9 nn (-1) false 0 false (eC 5 6) ((tA nn 6).sgn 0) (.sl 0 []))) := signedE_call 5 6 nn .N (.inl rfl) kA
 have sB : PCall prog 11 [.int .i64 nn, .int .i64 (-1), .int .i64 6, .int .i64 1] (.agg (lC ((tB nn).raw 0) (tB nn).tbs (nmV (authN 0)) 1 9 nn (-1) false 0 false (eC 6 1) ((tB nn).sgn 0) (.sl 0 []))) := signedE_call 6 1 nn .N (.inl rfl) kB
 have ev : evid (uce 5 []) [anc 0] [(tA nn 6).done 0, (tB nn).done 0] 5 = [((0 : Int), -1), (1, -1)] := ev_own (mlS_own nn .N _ (.inl rfl)) (mlS_own nn .N _ (.inl rfl)) rfl rfl 5 5 rfl ⟨by show (1 : Int) ≤ 5; omega, by show (5 : Int) ≤ 9; omega⟩ ⟨by show (1 : Int) ≤ 5; omega, by show (5 : Int) ≤ 9; omega⟩
 have p : PCall prog 13 [.agg (uC (.sl 0 [])), .sl 1 [nmV (authN 0), .int .i64 0, .str (pubK 0).id, .str (pubK 0).root], .sl 2 (lC ((tA nn 6).raw 0) (tA nn 6).tbs (nmV (authN 0)) 1 9 nn (-1) false 0 false (eC 5 6) ((tA nn 6).sgn 0) (.sl 0 []) ++ lC ((tB nn).raw 0) (tB nn).tbs (nmV (authN 0)) 1 9 nn (-1) false 0 false (eC 6 1) ((tB nn).sgn 0) (.sl 0 [])), .int .i64 5] (.int .i64 3) := by
  have h := of_call (uce 5 []) [anc 0] [(tA nn 6).done 0, (tB nn).done 0] 5 (uce_w 5 (by simp) (by simp; exact ⟨done_wst kA 0, done_wst kB 0⟩)) (by simp) w1 (by simp)
  have hv : ofB (uce 5 []) [anc 0] [(tA nn 6).done 0, (tB nn).done 0] 5 = 3 := by
   rw [of_ev2 ev (own_mask (mlS_own nn .N _ (.inl rfl)) 5) (own_mask (mlS_own nn .N _ (.inl rfl)) 5), fnd_some (m := (tA nn 6)) (s := 5) (r := 6) (w := authV 0) rfl rfl n00, fnd_other (m := (tB nn)) (s := 6) (r := 1) (w := authV 0) rfl (by decide)]
   rfl
  rw [hv] at h
  exact h
 have q : PCall prog 15 [.agg (uC (.sl 0 [])), .sl 1 [nmV (authN 0), .int .i64 0, .str (pubK 0).id, .str (pubK 0).root], .sl 2 (lC ((tA nn 6).raw 0) (tA nn 6).tbs (nmV (authN 0)) 1 9 nn (-1) false 0 false (eC 5 6) ((tA nn 6).sgn 0) (.sl 0 []) ++ lC ((tB nn).raw 0) (tB nn).tbs (nmV (authN 0)) 1 9 nn (-1) false 0 false (eC 6 1) ((tB nn).sgn 0) (.sl 0 [])), .int .i64 5] (.sl 2 [.int .i64 0, .int .i64 (-1), .int .i64 1, .int .i64 (-1)]) := by
  have h := evid_call (uce 5 []) [anc 0] [(tA nn 6).done 0, (tB nn).done 0] 5 (uce_w 5 (by simp) (by simp; exact ⟨done_wst kA 0, done_wst kB 0⟩)) (by simp) w1 (by simp)
  rw [ev] at h
  exact h
 clear w1 kA kB ev
 generalize (tA nn 6).raw 0 = w1 at *
 generalize (tA nn 6).tbs = t1 at *
 generalize (tA nn 6).sgn 0 = g1 at *
 generalize (tB nn).raw 0 = w2 at *
 generalize (tB nn).tbs = t2 at *
 generalize (tB nn).sgn 0 = g2 at *
 generalize (pubK 0).id = ID at *
 generalize (pubK 0).root = RT at *
 dsimp only [uC, lC, eC, List.cons_append, List.nil_append] at u5 sA sB p q
 refine pcall_body func3 rfl call3 ?_ ?_
 rotate_left 1
 refine awp_slots (s' := (.int .i64 x : V) :: (.bool false : V) :: (.int .i64 y : V) :: zJ 56) rfl ?_; dsimp only [zJ]
 rotate_left 1
 ·exact .bool
 refine awp_seq fun K hK => ?_
 repeat' (first | refine Zr ?_ | refine Zt ?_ | (refine Zk 1 [] ?_; refine Zl ?_) | (refine Yb rfl ?_ ?_ <;> intro hcnd <;> (try simp at hcnd) <;> try exact dc) | refine Zo ?_ | refine Zx ?_ | fail)
 refine hK _ _ ?_; clear hK K
 refine awp_seq fun K hK => ?_
 repeat' (first | ((first | refine Zu ?_ | (refine Zv ?_ ?_; (focus (simp; done)))); intro K9 h9; refine Zd ?_; ((first | refine acall_gen (rows' := [[.int .i64 y]]) (news := [[.osl 0 0 1 1, .int .i64 0]]) [0] [[.int .i64 y]] [[.osl 0 0 1 1, .int .i64 0]] (newP_call y) (by simp) (by simp [rowsOver, rowRen_live]) (by simp) rfl rfl (by simp [behind]) (rc := .ref 1 0) (by simp [behind]) ?_ | refine acall_gen (rows' := [[.int .i64 y], [.osl 0 0 1 1, .int .i64 1]]) (news := []) [0, 1] [[.int .i64 y], [.osl 0 0 1 1, .int .i64 1]] [] nd (by simp) (by simp [rowsOver, rowRen_live]) (by simp) rfl rfl (by simp [behind]) (rc := .int .i64 d) (by simp) ?_ | skip) <;> (refine Zf h9 ?_; clear h9 K9))) | refine Zt ?_ | (refine Zk 1 [] ?_; refine Zl ?_) | (refine Yb rfl ?_ ?_ <;> intro hcnd <;> (try simp at hcnd) <;> try exact dc) | refine Zo ?_ | refine Zx ?_ | fail)
 refine hK _ _ ?_; clear hK K
 simp only [e1]
 refine awp_seq fun K hK => ?_
 repeat' (first | ((first | refine Zu ?_ | (refine Zv ?_ ?_; (focus (simp; done)))); intro K9 h9; refine Zd ?_; ((first | refine acall_gen (rows' := [[.int .i64 x]]) (news := [[.osl 0 0 1 1, .int .i64 0]]) [2] [[.int .i64 x]] [[.osl 2 0 1 1, .int .i64 0]] (newP_call x) (by simp) (by simp [rowsOver, rowRen_live]) (by simp) rfl rfl (by simp [behind]) (rc := .ref 3 0) (by simp [behind]) ?_ | refine acall_gen (rows' := [[.int .i64 x], [.osl 0 0 1 1, .int .i64 1]]) (news := []) [2, 3] [[.int .i64 x], [.osl 2 0 1 1, .int .i64 1]] [] nk (by simp) (by simp [rowsOver, rowRen_live]) (by simp) rfl rfl (by simp [behind]) (rc := .int .i64 1) (by simp) ?_ | skip) <;> (refine Zf h9 ?_; clear h9 K9))) | refine Zt ?_ | (refine Zk 1 [] ?_; refine Zl ?_) | (refine Yb rfl ?_ ?_ <;> intro hcnd <;> (try simp at hcnd) <;> try exact dc) | refine Zo ?_ | refine Zx ?_ | fail)
 refine hK _ _ ?_; clear hK K
 repeat' (first | refine Zz 7 ?_ | refine Zz 8 ?_ | ((first | refine ZuD ?_ | (refine ZvD ?_ ?_; (focus (simp; done)))); intro K9 h9; refine Zd ?_; ((first | refine Zc u5 ?_ | refine Zc an ?_ | refine Zc aw ?_ | refine Zc sA ?_ | refine Zc sB ?_ | refine Zc p ?_ | refine Zc q ?_ | skip) <;> (refine ZfD h9 ?_; clear h9 K9))) | refine ZtD ?_ | refine Y8 fun K hK => ?_ | (apply hK; clear hK K) | ((first | refine DU.Zk (ops := #[_, _, _, _, _, _, _, _, _, _, _, _, _, _, _, _, _, _, _, _, _]) 1 [1, 0, 0, 1, 0, 0, 0, 0, 0, 0, 1, 0, 0, 1, 0, 0, 0, 0, 1, 0, 0] ?_ | refine DU.Zk 1 [] ?_); refine Zl ?_) | (refine Yb rfl ?_ ?_ <;> intro hcnd <;> (try simp at hcnd) <;> try exact dc) | refine ZoD ?_ | refine Zx ?_ | clear hK K)
 simp
 exact .pure .bool
theorem twins11_call (x : Int) (y : Int) (hx : I64 x) (hy : I64 y) (hk : dkX [x] 0 3 = 1) : PCall prog 3 [.int .i64 x, .bool true, .int .i64 y] (.bool true) := by
 have aw := awake28_call
 obtain ⟨u5, an, w1⟩ := tw0
 obtain ⟨d, nn, nd, e1, lnn⟩ := tw1 y hy
 have nk := nextP_call x 3 hx (by omega) (by omega)
 rw [hk] at nk
 clear hk
 have kA : MlOk (tA nn 6) := mlS_okE nn .N 5 6 lnn (.inl rfl) (by omega) (by omega) (by omega)
 have kB : MlOk (tB nn) := mlS_okE nn .N 6 1 lnn (.inl rfl) (by omega) (by omega) (by omega)
 have sA : PCall prog 11 [.int .i64 nn, .int .i64 (-1), .int .i64 5, .int .i64 6] (.agg (lC ((tA nn 6).raw 0) (tA nn 6).tbs (nmV (authN 0)) 1 9 nn (-1) false 0 false (eC 5 6) ((tA nn 6).sgn 0) (.sl 0 []))) := signedE_call 5 6 nn .N (.inl rfl) kA
 have sB : PCall prog 11 [.int .i64 nn, .int .i64 (-1), .int .i64 6, .int .i64 1] (.agg (lC ((tB nn).raw 0) (tB nn).tbs (nmV (authN 0)) 1 9 nn (-1) false 0 false (eC 6 1) ((tB nn).sgn 0) (.sl 0 []))) := signedE_call 6 1 nn .N (.inl rfl) kB
 have ev : evid (uce 5 []) [anc 0] [(tB nn).done 0, (tA nn 6).done 0] 5 = [((0 : Int), -1), (1, -1)] := ev_own (mlS_own nn .N _ (.inl rfl)) (mlS_own nn .N _ (.inl rfl)) rfl rfl 5 5 rfl ⟨by show (1 : Int) ≤ 5; omega, by show (5 : Int) ≤ 9; omega⟩ ⟨by show (1 : Int) ≤ 5; omega, by show (5 : Int) ≤ 9; omega⟩
 have p : PCall prog 13 [.agg (uC (.sl 0 [])), .sl 1 [nmV (authN 0), .int .i64 0, .str (pubK 0).id, .str (pubK 0).root], .sl 2 (lC ((tB nn).raw 0) (tB nn).tbs (nmV (authN 0)) 1 9 nn (-1) false 0 false (eC 6 1) ((tB nn).sgn 0) (.sl 0 []) ++ lC ((tA nn 6).raw 0) (tA nn 6).tbs (nmV (authN 0)) 1 9 nn (-1) false 0 false (eC 5 6) ((tA nn 6).sgn 0) (.sl 0 [])), .int .i64 5] (.int .i64 3) := by
  have h := of_call (uce 5 []) [anc 0] [(tB nn).done 0, (tA nn 6).done 0] 5 (uce_w 5 (by simp) (by simp; exact ⟨done_wst kB 0, done_wst kA 0⟩)) (by simp) w1 (by simp)
  have hv : ofB (uce 5 []) [anc 0] [(tB nn).done 0, (tA nn 6).done 0] 5 = 3 := by
   rw [of_ev2 ev (own_mask (mlS_own nn .N _ (.inl rfl)) 5) (own_mask (mlS_own nn .N _ (.inl rfl)) 5), fnd_some (m := (tA nn 6)) (s := 5) (r := 6) (w := authV 0) rfl rfl n00, fnd_other (m := (tB nn)) (s := 6) (r := 1) (w := authV 0) rfl (by decide)]
   rfl
  rw [hv] at h
  exact h
 have q : PCall prog 15 [.agg (uC (.sl 0 [])), .sl 1 [nmV (authN 0), .int .i64 0, .str (pubK 0).id, .str (pubK 0).root], .sl 2 (lC ((tB nn).raw 0) (tB nn).tbs (nmV (authN 0)) 1 9 nn (-1) false 0 false (eC 6 1) ((tB nn).sgn 0) (.sl 0 []) ++ lC ((tA nn 6).raw 0) (tA nn 6).tbs (nmV (authN 0)) 1 9 nn (-1) false 0 false (eC 5 6) ((tA nn 6).sgn 0) (.sl 0 [])), .int .i64 5] (.sl 2 [.int .i64 0, .int .i64 (-1), .int .i64 1, .int .i64 (-1)]) := by
  have h := evid_call (uce 5 []) [anc 0] [(tB nn).done 0, (tA nn 6).done 0] 5 (uce_w 5 (by simp) (by simp; exact ⟨done_wst kB 0, done_wst kA 0⟩)) (by simp) w1 (by simp)
  rw [ev] at h
  exact h
 clear w1 kA kB ev
 generalize (tA nn 6).raw 0 = w1 at *
 generalize (tA nn 6).tbs = t1 at *
 generalize (tA nn 6).sgn 0 = g1 at *
 generalize (tB nn).raw 0 = w2 at *
 generalize (tB nn).tbs = t2 at *
 generalize (tB nn).sgn 0 = g2 at *
 generalize (pubK 0).id = ID at *
 generalize (pubK 0).root = RT at *
 dsimp only [uC, lC, eC, List.cons_append, List.nil_append] at u5 sA sB p q
 refine pcall_body func3 rfl call3 ?_ ?_
 rotate_left 1
 refine awp_slots (s' := (.int .i64 x : V) :: (.bool true : V) :: (.int .i64 y : V) :: zJ 56) rfl ?_; dsimp only [zJ]
 rotate_left 1
 ·exact .bool
 refine awp_seq fun K hK => ?_
 repeat' (first | refine Zr ?_ | refine Zt ?_ | (refine Zk 1 [] ?_; refine Zl ?_) | (refine Yb rfl ?_ ?_ <;> intro hcnd <;> (try simp at hcnd) <;> try exact dc) | refine Zo ?_ | refine Zx ?_ | fail)
 refine hK _ _ ?_; clear hK K
 refine awp_seq fun K hK => ?_
 repeat' (first | ((first | refine Zu ?_ | (refine Zv ?_ ?_; (focus (simp; done)))); intro K9 h9; refine Zd ?_; ((first | refine acall_gen (rows' := [[.int .i64 y]]) (news := [[.osl 0 0 1 1, .int .i64 0]]) [0] [[.int .i64 y]] [[.osl 0 0 1 1, .int .i64 0]] (newP_call y) (by simp) (by simp [rowsOver, rowRen_live]) (by simp) rfl rfl (by simp [behind]) (rc := .ref 1 0) (by simp [behind]) ?_ | refine acall_gen (rows' := [[.int .i64 y], [.osl 0 0 1 1, .int .i64 1]]) (news := []) [0, 1] [[.int .i64 y], [.osl 0 0 1 1, .int .i64 1]] [] nd (by simp) (by simp [rowsOver, rowRen_live]) (by simp) rfl rfl (by simp [behind]) (rc := .int .i64 d) (by simp) ?_ | skip) <;> (refine Zf h9 ?_; clear h9 K9))) | refine Zt ?_ | (refine Zk 1 [] ?_; refine Zl ?_) | (refine Yb rfl ?_ ?_ <;> intro hcnd <;> (try simp at hcnd) <;> try exact dc) | refine Zo ?_ | refine Zx ?_ | fail)
 refine hK _ _ ?_; clear hK K
 simp only [e1]
 refine awp_seq fun K hK => ?_
 repeat' (first | ((first | refine Zu ?_ | (refine Zv ?_ ?_; (focus (simp; done)))); intro K9 h9; refine Zd ?_; ((first | refine acall_gen (rows' := [[.int .i64 x]]) (news := [[.osl 0 0 1 1, .int .i64 0]]) [2] [[.int .i64 x]] [[.osl 2 0 1 1, .int .i64 0]] (newP_call x) (by simp) (by simp [rowsOver, rowRen_live]) (by simp) rfl rfl (by simp [behind]) (rc := .ref 3 0) (by simp [behind]) ?_ | refine acall_gen (rows' := [[.int .i64 x], [.osl 0 0 1 1, .int .i64 1]]) (news := []) [2, 3] [[.int .i64 x], [.osl 2 0 1 1, .int .i64 1]] [] nk (by simp) (by simp [rowsOver, rowRen_live]) (by simp) rfl rfl (by simp [behind]) (rc := .int .i64 1) (by simp) ?_ | skip) <;> (refine Zf h9 ?_; clear h9 K9))) | refine Zt ?_ | (refine Zk 1 [] ?_; refine Zl ?_) | (refine Yb rfl ?_ ?_ <;> intro hcnd <;> (try simp at hcnd) <;> try exact dc) | refine Zo ?_ | refine Zx ?_ | fail)
 refine hK _ _ ?_; clear hK K
 repeat' (first | refine Zz 7 ?_ | refine Zz 8 ?_ | refine Zz 9 ?_ | ((first | refine ZuD ?_ | (refine ZvD ?_ ?_; (focus (simp; done)))); intro K9 h9; refine Zd ?_; ((first | refine Zc u5 ?_ | refine Zc an ?_ | refine Zc aw ?_ | refine Zc sA ?_ | refine Zc sB ?_ | refine Zc p ?_ | refine Zc q ?_ | skip) <;> (refine ZfD h9 ?_; clear h9 K9))) | refine ZtD ?_ | refine Y8 fun K hK => ?_ | (apply hK; clear hK K) | ((first | refine DU.Zk (ops := #[_, _, _, _, _, _, _, _, _, _, _, _, _, _, _, _, _, _, _, _, _]) 1 [1, 0, 0, 1, 0, 0, 0, 0, 0, 0, 1, 0, 0, 1, 0, 0, 0, 0, 1, 0, 0] ?_ | refine DU.Zk 1 [] ?_); refine Zl ?_) | (refine Yb rfl ?_ ?_ <;> intro hcnd <;> (try simp at hcnd) <;> try exact dc) | refine ZoD ?_ | refine Zx ?_ | clear hK K)
 simp
 exact .pure .bool
theorem twins20_call (x : Int) (y : Int) (hx : I64 x) (hy : I64 y) (hk : dkX [x] 0 3 = 2) : PCall prog 3 [.int .i64 x, .bool false, .int .i64 y] (.bool true) := by
 have aw := awake28_call
 obtain ⟨u5, an, w1⟩ := tw0
 obtain ⟨d, nn, nd, e1, lnn⟩ := tw1 y hy
 have nk := nextP_call x 3 hx (by omega) (by omega)
 rw [hk] at nk
 clear hk
 have kA : MlOk (tA nn 0) := mlS_okE nn .N 5 0 lnn (.inl rfl) (by omega) (by omega) (by omega)
 have kB : MlOk (tB nn) := mlS_okE nn .N 6 1 lnn (.inl rfl) (by omega) (by omega) (by omega)
 have sA : PCall prog 11 [.int .i64 nn, .int .i64 (-1), .int .i64 5, .int .i64 0] (.agg (lC ((tA nn 0).raw 0) (tA nn 0).tbs (nmV (authN 0)) 1 9 nn (-1) false 0 false (eC 5 0) ((tA nn 0).sgn 0) (.sl 0 []))) := signedE_call 5 0 nn .N (.inl rfl) kA
 have sB : PCall prog 11 [.int .i64 nn, .int .i64 (-1), .int .i64 6, .int .i64 1] (.agg (lC ((tB nn).raw 0) (tB nn).tbs (nmV (authN 0)) 1 9 nn (-1) false 0 false (eC 6 1) ((tB nn).sgn 0) (.sl 0 []))) := signedE_call 6 1 nn .N (.inl rfl) kB
 have ev : evid (uce 5 []) [anc 0] [(tA nn 0).done 0, (tB nn).done 0] 5 = [((0 : Int), -1), (1, -1)] := ev_own (mlS_own nn .N _ (.inl rfl)) (mlS_own nn .N _ (.inl rfl)) rfl rfl 5 5 rfl ⟨by show (1 : Int) ≤ 5; omega, by show (5 : Int) ≤ 9; omega⟩ ⟨by show (1 : Int) ≤ 5; omega, by show (5 : Int) ≤ 9; omega⟩
 have p : PCall prog 13 [.agg (uC (.sl 0 [])), .sl 1 [nmV (authN 0), .int .i64 0, .str (pubK 0).id, .str (pubK 0).root], .sl 2 (lC ((tA nn 0).raw 0) (tA nn 0).tbs (nmV (authN 0)) 1 9 nn (-1) false 0 false (eC 5 0) ((tA nn 0).sgn 0) (.sl 0 []) ++ lC ((tB nn).raw 0) (tB nn).tbs (nmV (authN 0)) 1 9 nn (-1) false 0 false (eC 6 1) ((tB nn).sgn 0) (.sl 0 [])), .int .i64 5] (.int .i64 2) := by
  have h := of_call (uce 5 []) [anc 0] [(tA nn 0).done 0, (tB nn).done 0] 5 (uce_w 5 (by simp) (by simp; exact ⟨done_wst kA 0, done_wst kB 0⟩)) (by simp) w1 (by simp)
  have hv : ofB (uce 5 []) [anc 0] [(tA nn 0).done 0, (tB nn).done 0] 5 = 2 := by
   rw [of_ev2 ev (own_mask (mlS_own nn .N _ (.inl rfl)) 5) (own_mask (mlS_own nn .N _ (.inl rfl)) 5), fnd_some (m := (tA nn 0)) (s := 5) (r := 0) (w := authV 0) rfl rfl n00, fnd_other (m := (tB nn)) (s := 6) (r := 1) (w := authV 0) rfl (by decide)]
   rfl
  rw [hv] at h
  exact h
 have q : PCall prog 15 [.agg (uC (.sl 0 [])), .sl 1 [nmV (authN 0), .int .i64 0, .str (pubK 0).id, .str (pubK 0).root], .sl 2 (lC ((tA nn 0).raw 0) (tA nn 0).tbs (nmV (authN 0)) 1 9 nn (-1) false 0 false (eC 5 0) ((tA nn 0).sgn 0) (.sl 0 []) ++ lC ((tB nn).raw 0) (tB nn).tbs (nmV (authN 0)) 1 9 nn (-1) false 0 false (eC 6 1) ((tB nn).sgn 0) (.sl 0 [])), .int .i64 5] (.sl 2 [.int .i64 0, .int .i64 (-1), .int .i64 1, .int .i64 (-1)]) := by
  have h := evid_call (uce 5 []) [anc 0] [(tA nn 0).done 0, (tB nn).done 0] 5 (uce_w 5 (by simp) (by simp; exact ⟨done_wst kA 0, done_wst kB 0⟩)) (by simp) w1 (by simp)
  rw [ev] at h
  exact h
 clear w1 kA kB ev
 generalize (tA nn 0).raw 0 = w1 at *
 generalize (tA nn 0).tbs = t1 at *
 generalize (tA nn 0).sgn 0 = g1 at *
 generalize (tB nn).raw 0 = w2 at *
 generalize (tB nn).tbs = t2 at *
 generalize (tB nn).sgn 0 = g2 at *
 generalize (pubK 0).id = ID at *
 generalize (pubK 0).root = RT at *
 dsimp only [uC, lC, eC, List.cons_append, List.nil_append] at u5 sA sB p q
 refine pcall_body func3 rfl call3 ?_ ?_
 rotate_left 1
 refine awp_slots (s' := (.int .i64 x : V) :: (.bool false : V) :: (.int .i64 y : V) :: zJ 56) rfl ?_; dsimp only [zJ]
 rotate_left 1
 ·exact .bool
 refine awp_seq fun K hK => ?_
 repeat' (first | refine Zr ?_ | refine Zt ?_ | (refine Zk 1 [] ?_; refine Zl ?_) | (refine Yb rfl ?_ ?_ <;> intro hcnd <;> (try simp at hcnd) <;> try exact dc) | refine Zo ?_ | refine Zx ?_ | fail)
 refine hK _ _ ?_; clear hK K
 refine awp_seq fun K hK => ?_
 repeat' (first | ((first | refine Zu ?_ | (refine Zv ?_ ?_; (focus (simp; done)))); intro K9 h9; refine Zd ?_; ((first | refine acall_gen (rows' := [[.int .i64 y]]) (news := [[.osl 0 0 1 1, .int .i64 0]]) [0] [[.int .i64 y]] [[.osl 0 0 1 1, .int .i64 0]] (newP_call y) (by simp) (by simp [rowsOver, rowRen_live]) (by simp) rfl rfl (by simp [behind]) (rc := .ref 1 0) (by simp [behind]) ?_ | refine acall_gen (rows' := [[.int .i64 y], [.osl 0 0 1 1, .int .i64 1]]) (news := []) [0, 1] [[.int .i64 y], [.osl 0 0 1 1, .int .i64 1]] [] nd (by simp) (by simp [rowsOver, rowRen_live]) (by simp) rfl rfl (by simp [behind]) (rc := .int .i64 d) (by simp) ?_ | skip) <;> (refine Zf h9 ?_; clear h9 K9))) | refine Zt ?_ | (refine Zk 1 [] ?_; refine Zl ?_) | (refine Yb rfl ?_ ?_ <;> intro hcnd <;> (try simp at hcnd) <;> try exact dc) | refine Zo ?_ | refine Zx ?_ | fail)
 refine hK _ _ ?_; clear hK K
 simp only [e1]
 refine awp_seq fun K hK => ?_
 repeat' (first | ((first | refine Zu ?_ | (refine Zv ?_ ?_; (focus (simp; done)))); intro K9 h9; refine Zd ?_; ((first | refine acall_gen (rows' := [[.int .i64 x]]) (news := [[.osl 0 0 1 1, .int .i64 0]]) [2] [[.int .i64 x]] [[.osl 2 0 1 1, .int .i64 0]] (newP_call x) (by simp) (by simp [rowsOver, rowRen_live]) (by simp) rfl rfl (by simp [behind]) (rc := .ref 3 0) (by simp [behind]) ?_ | refine acall_gen (rows' := [[.int .i64 x], [.osl 0 0 1 1, .int .i64 1]]) (news := []) [2, 3] [[.int .i64 x], [.osl 2 0 1 1, .int .i64 1]] [] nk (by simp) (by simp [rowsOver, rowRen_live]) (by simp) rfl rfl (by simp [behind]) (rc := .int .i64 2) (by simp) ?_ | skip) <;> (refine Zf h9 ?_; clear h9 K9))) | refine Zt ?_ | (refine Zk 1 [] ?_; refine Zl ?_) | (refine Yb rfl ?_ ?_ <;> intro hcnd <;> (try simp at hcnd) <;> try exact dc) | refine Zo ?_ | refine Zx ?_ | fail)
 refine hK _ _ ?_; clear hK K
 repeat' (first | refine Zz 7 ?_ | refine Zz 8 ?_ | ((first | refine ZuD ?_ | (refine ZvD ?_ ?_; (focus (simp; done)))); intro K9 h9; refine Zd ?_; ((first | refine Zc u5 ?_ | refine Zc an ?_ | refine Zc aw ?_ | refine Zc sA ?_ | refine Zc sB ?_ | refine Zc p ?_ | refine Zc q ?_ | skip) <;> (refine ZfD h9 ?_; clear h9 K9))) | refine ZtD ?_ | refine Y8 fun K hK => ?_ | (apply hK; clear hK K) | ((first | refine DU.Zk (ops := #[_, _, _, _, _, _, _, _, _, _, _, _, _, _, _, _, _, _, _, _, _]) 1 [1, 0, 0, 1, 0, 0, 0, 0, 0, 0, 1, 0, 0, 1, 0, 0, 0, 0, 1, 0, 0] ?_ | refine DU.Zk 1 [] ?_); refine Zl ?_) | (refine Yb rfl ?_ ?_ <;> intro hcnd <;> (try simp at hcnd) <;> try exact dc) | refine ZoD ?_ | refine Zx ?_ | clear hK K)
 simp
 exact .pure .bool
theorem twins21_call (x : Int) (y : Int) (hx : I64 x) (hy : I64 y) (hk : dkX [x] 0 3 = 2) : PCall prog 3 [.int .i64 x, .bool true, .int .i64 y] (.bool true) := by
 have aw := awake28_call
 obtain ⟨u5, an, w1⟩ := tw0
 obtain ⟨d, nn, nd, e1, lnn⟩ := tw1 y hy
 have nk := nextP_call x 3 hx (by omega) (by omega)
 rw [hk] at nk
 clear hk
 have kA : MlOk (tA nn 0) := mlS_okE nn .N 5 0 lnn (.inl rfl) (by omega) (by omega) (by omega)
 have kB : MlOk (tB nn) := mlS_okE nn .N 6 1 lnn (.inl rfl) (by omega) (by omega) (by omega)
 have sA : PCall prog 11 [.int .i64 nn, .int .i64 (-1), .int .i64 5, .int .i64 0] (.agg (lC ((tA nn 0).raw 0) (tA nn 0).tbs (nmV (authN 0)) 1 9 nn (-1) false 0 false (eC 5 0) ((tA nn 0).sgn 0) (.sl 0 []))) := signedE_call 5 0 nn .N (.inl rfl) kA
 have sB : PCall prog 11 [.int .i64 nn, .int .i64 (-1), .int .i64 6, .int .i64 1] (.agg (lC ((tB nn).raw 0) (tB nn).tbs (nmV (authN 0)) 1 9 nn (-1) false 0 false (eC 6 1) ((tB nn).sgn 0) (.sl 0 []))) := signedE_call 6 1 nn .N (.inl rfl) kB
 have ev : evid (uce 5 []) [anc 0] [(tB nn).done 0, (tA nn 0).done 0] 5 = [((0 : Int), -1), (1, -1)] := ev_own (mlS_own nn .N _ (.inl rfl)) (mlS_own nn .N _ (.inl rfl)) rfl rfl 5 5 rfl ⟨by show (1 : Int) ≤ 5; omega, by show (5 : Int) ≤ 9; omega⟩ ⟨by show (1 : Int) ≤ 5; omega, by show (5 : Int) ≤ 9; omega⟩
 have p : PCall prog 13 [.agg (uC (.sl 0 [])), .sl 1 [nmV (authN 0), .int .i64 0, .str (pubK 0).id, .str (pubK 0).root], .sl 2 (lC ((tB nn).raw 0) (tB nn).tbs (nmV (authN 0)) 1 9 nn (-1) false 0 false (eC 6 1) ((tB nn).sgn 0) (.sl 0 []) ++ lC ((tA nn 0).raw 0) (tA nn 0).tbs (nmV (authN 0)) 1 9 nn (-1) false 0 false (eC 5 0) ((tA nn 0).sgn 0) (.sl 0 [])), .int .i64 5] (.int .i64 2) := by
  have h := of_call (uce 5 []) [anc 0] [(tB nn).done 0, (tA nn 0).done 0] 5 (uce_w 5 (by simp) (by simp; exact ⟨done_wst kB 0, done_wst kA 0⟩)) (by simp) w1 (by simp)
  have hv : ofB (uce 5 []) [anc 0] [(tB nn).done 0, (tA nn 0).done 0] 5 = 2 := by
   rw [of_ev2 ev (own_mask (mlS_own nn .N _ (.inl rfl)) 5) (own_mask (mlS_own nn .N _ (.inl rfl)) 5), fnd_some (m := (tA nn 0)) (s := 5) (r := 0) (w := authV 0) rfl rfl n00, fnd_other (m := (tB nn)) (s := 6) (r := 1) (w := authV 0) rfl (by decide)]
   rfl
  rw [hv] at h
  exact h
 have q : PCall prog 15 [.agg (uC (.sl 0 [])), .sl 1 [nmV (authN 0), .int .i64 0, .str (pubK 0).id, .str (pubK 0).root], .sl 2 (lC ((tB nn).raw 0) (tB nn).tbs (nmV (authN 0)) 1 9 nn (-1) false 0 false (eC 6 1) ((tB nn).sgn 0) (.sl 0 []) ++ lC ((tA nn 0).raw 0) (tA nn 0).tbs (nmV (authN 0)) 1 9 nn (-1) false 0 false (eC 5 0) ((tA nn 0).sgn 0) (.sl 0 [])), .int .i64 5] (.sl 2 [.int .i64 0, .int .i64 (-1), .int .i64 1, .int .i64 (-1)]) := by
  have h := evid_call (uce 5 []) [anc 0] [(tB nn).done 0, (tA nn 0).done 0] 5 (uce_w 5 (by simp) (by simp; exact ⟨done_wst kB 0, done_wst kA 0⟩)) (by simp) w1 (by simp)
  rw [ev] at h
  exact h
 clear w1 kA kB ev
 generalize (tA nn 0).raw 0 = w1 at *
 generalize (tA nn 0).tbs = t1 at *
 generalize (tA nn 0).sgn 0 = g1 at *
 generalize (tB nn).raw 0 = w2 at *
 generalize (tB nn).tbs = t2 at *
 generalize (tB nn).sgn 0 = g2 at *
 generalize (pubK 0).id = ID at *
 generalize (pubK 0).root = RT at *
 dsimp only [uC, lC, eC, List.cons_append, List.nil_append] at u5 sA sB p q
 refine pcall_body func3 rfl call3 ?_ ?_
 rotate_left 1
 refine awp_slots (s' := (.int .i64 x : V) :: (.bool true : V) :: (.int .i64 y : V) :: zJ 56) rfl ?_; dsimp only [zJ]
 rotate_left 1
 ·exact .bool
 refine awp_seq fun K hK => ?_
 repeat' (first | refine Zr ?_ | refine Zt ?_ | (refine Zk 1 [] ?_; refine Zl ?_) | (refine Yb rfl ?_ ?_ <;> intro hcnd <;> (try simp at hcnd) <;> try exact dc) | refine Zo ?_ | refine Zx ?_ | fail)
 refine hK _ _ ?_; clear hK K
 refine awp_seq fun K hK => ?_
 repeat' (first | ((first | refine Zu ?_ | (refine Zv ?_ ?_; (focus (simp; done)))); intro K9 h9; refine Zd ?_; ((first | refine acall_gen (rows' := [[.int .i64 y]]) (news := [[.osl 0 0 1 1, .int .i64 0]]) [0] [[.int .i64 y]] [[.osl 0 0 1 1, .int .i64 0]] (newP_call y) (by simp) (by simp [rowsOver, rowRen_live]) (by simp) rfl rfl (by simp [behind]) (rc := .ref 1 0) (by simp [behind]) ?_ | refine acall_gen (rows' := [[.int .i64 y], [.osl 0 0 1 1, .int .i64 1]]) (news := []) [0, 1] [[.int .i64 y], [.osl 0 0 1 1, .int .i64 1]] [] nd (by simp) (by simp [rowsOver, rowRen_live]) (by simp) rfl rfl (by simp [behind]) (rc := .int .i64 d) (by simp) ?_ | skip) <;> (refine Zf h9 ?_; clear h9 K9))) | refine Zt ?_ | (refine Zk 1 [] ?_; refine Zl ?_) | (refine Yb rfl ?_ ?_ <;> intro hcnd <;> (try simp at hcnd) <;> try exact dc) | refine Zo ?_ | refine Zx ?_ | fail)
 refine hK _ _ ?_; clear hK K
 simp only [e1]
 refine awp_seq fun K hK => ?_
 repeat' (first | ((first | refine Zu ?_ | (refine Zv ?_ ?_; (focus (simp; done)))); intro K9 h9; refine Zd ?_; ((first | refine acall_gen (rows' := [[.int .i64 x]]) (news := [[.osl 0 0 1 1, .int .i64 0]]) [2] [[.int .i64 x]] [[.osl 2 0 1 1, .int .i64 0]] (newP_call x) (by simp) (by simp [rowsOver, rowRen_live]) (by simp) rfl rfl (by simp [behind]) (rc := .ref 3 0) (by simp [behind]) ?_ | refine acall_gen (rows' := [[.int .i64 x], [.osl 0 0 1 1, .int .i64 1]]) (news := []) [2, 3] [[.int .i64 x], [.osl 2 0 1 1, .int .i64 1]] [] nk (by simp) (by simp [rowsOver, rowRen_live]) (by simp) rfl rfl (by simp [behind]) (rc := .int .i64 2) (by simp) ?_ | skip) <;> (refine Zf h9 ?_; clear h9 K9))) | refine Zt ?_ | (refine Zk 1 [] ?_; refine Zl ?_) | (refine Yb rfl ?_ ?_ <;> intro hcnd <;> (try simp at hcnd) <;> try exact dc) | refine Zo ?_ | refine Zx ?_ | fail)
 refine hK _ _ ?_; clear hK K
 repeat' (first | refine Zz 7 ?_ | refine Zz 8 ?_ | refine Zz 9 ?_ | ((first | refine ZuD ?_ | (refine ZvD ?_ ?_; (focus (simp; done)))); intro K9 h9; refine Zd ?_; ((first | refine Zc u5 ?_ | refine Zc an ?_ | refine Zc aw ?_ | refine Zc sA ?_ | refine Zc sB ?_ | refine Zc p ?_ | refine Zc q ?_ | skip) <;> (refine ZfD h9 ?_; clear h9 K9))) | refine ZtD ?_ | refine Y8 fun K hK => ?_ | (apply hK; clear hK K) | ((first | refine DU.Zk (ops := #[_, _, _, _, _, _, _, _, _, _, _, _, _, _, _, _, _, _, _, _, _]) 1 [1, 0, 0, 1, 0, 0, 0, 0, 0, 0, 1, 0, 0, 1, 0, 0, 0, 0, 1, 0, 0] ?_ | refine DU.Zk 1 [] ?_); refine Zl ?_) | (refine Yb rfl ?_ ?_ <;> intro hcnd <;> (try simp at hcnd) <;> try exact dc) | refine ZoD ?_ | refine Zx ?_ | clear hK K)
 simp
 exact .pure .bool
theorem twins_call (x : Int) (second : Bool) (y : Int) (hx : I64 x) (hy : I64 y) : PCall prog 3 [.int .i64 x, .bool second, .int .i64 y] (.bool true) := by
 have hb := dkX_bounds (l := [x]) (a := 0) (n := 3) (by omega)
 have hc : dkX [x] 0 3 = 0 ∨ dkX [x] 0 3 = 1 ∨ dkX [x] 0 3 = 2 := by omega
 cases second
 ·rcases hc with h | h | h
  ·exact twins00_call x y hx hy h
  ·exact twins10_call x y hx hy h
  ·exact twins20_call x y hx hy h
 ·rcases hc with h | h | h
  ·exact twins01_call x y hx hy h
  ·exact twins11_call x y hx hy h
  ·exact twins21_call x y hx hy h
theorem fitsB {P : Program} {t : TypeId} {f : Nat} {x : V} (ht : P.underlying t = some .bool) (h : FitsV P (f + 1) t x) : ∃ b, x = .bool b := by
 simpa [FitsV, ht, Fits] using h
theorem twins_fits : ∀ xs, FitsAll prog 8 Tryz.f3.params.toList xs → PCall prog 3 xs (.bool true) := by
 intro xs h
 rw [show Tryz.f3.params.toList = [3, 4, 3] by kernel_rfl] at h
 obtain ⟨x1, xs, rfl, h1, h⟩ := fitsAll_cons h
 obtain ⟨x2, xs, rfl, h2, h⟩ := fitsAll_cons h
 obtain ⟨x3, xs, rfl, h3, h⟩ := fitsAll_cons h
 obtain rfl := fitsAll_nil h
 obtain ⟨n, hn, rfl⟩ := fits_int (by kernel_rfl) h1
 obtain ⟨b, rfl⟩ := fitsB (by kernel_rfl) h2
 obtain ⟨m, hm, rfl⟩ := fits_int (by kernel_rfl) h3
 exact twins_call n b m hn hm
end Go.Proofs.YtnpndfmbkmbhbaaGreatDoor

