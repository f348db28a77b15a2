/-
 STATUS: StatusPartitions.
 Conditions: none.
-/
import Derived.Test.YtnpndfmbkmbhbaaGreatDoorE19
set_option maxRecDepth 100000
set_option maxHeartbeats 32000000
set_option linter.all false
namespace Go.Sta
open Go.VS Go.Stp Go.Der Go.Proofs.YtnpndfmbkmbhbaaGreatDoor
theorem pR1 : ∀ r : Nat, r < 512 → r % 2 = 0 → bits .and .i64 510 (r : Int) = r := by decide +kernel
theorem pR2 : ∀ r : Nat, r < 512 → bits .or .i64 0 (r : Int) = r := by decide +kernel
theorem pR3 : ∀ r : Nat, r < 511 → r % 2 = 0 → bits .andNot .i64 510 (r : Int) = ((510 - r : Nat) : Int) := by decide +kernel
theorem pR4 : ∀ r : Nat, r < 511 → r % 2 = 0 → bits .and .i64 (r : Int) 510 = r := by decide +kernel
theorem pR5 : ∀ r : Nat, r < 511 → r % 2 = 0 → bits .and .i64 (bits .or .i64 (r : Int) ((510 - r : Nat) : Int)) 510 = 510 := by decide +kernel
theorem par_mask {m : Ml} (hv : m.v = authV 0) {r : Nat} (hk : m.kd = .R r) (h0 : 0 < r) (h1 : r < 512) (h2 : r % 2 = 0) : maskS (uce 5 []) (m.done 0) = r := by
 have hn : nameB (m.done 0).issuer (authN 0) = true := by
  show nameB (nm1 m.v) (authN 0) = true
  rw [hv]; exact n00
 have hh : (m.done 0).has = true := by show m.kd.has = true; rw [hk]; rfl
 have hsc : (m.done 0).sc = ⟨[], false, false, (r : Int), false⟩ := by
  show (⟨[], false, false, m.kd.rea, m.kd.ind⟩ : Sc) = _
  rw [hk]; rfl
 have hc : (coversS (uce 5 []) pt0 (m.done 0)).1 = r := by
  have hr0 : ¬ (r : Int) = 0 := by omega
  have hr1 : ¬ r = 0 := by omega
  unfold coversS
  rw [show (uce 5 []).issuer = authN 0 from rfl, hn, hh, hsc]
  simp [pt0, coverM, allM, hh, hsc, hr0, hr1, pR1 r h1 h2]
 show bits .or .i64 0 (coversS (uce 5 []) pt0 (m.done 0)).1 = r
 rw [hc]
 exact pR2 r h1
theorem par_sgd {m : Ml} (hv : m.v = authV 0) : sgdB (m.done 0) [anc 0] = true := by
 have := done_sg1 m 0 (by rw [hv]; exact n00)
 simp [sgdB, this]
theorem of1 {c : Ce} {ss : List An} {a : Li} {t M : Int} (ha : a.base = -1) (sa : sgdB a ss = true) (ma : maskS c a = M) (hM : M ≠ 0) (hc : currentB a t = true) : ofB c ss [a] t = if vdR (fndE c a) = 2 then 2 else ofE (decide (vdR (fndE c a) = 3)) (bits .or .i64 0 M) := by
 have hp := prfs_c (c := c) (ss := ss) (t := t) ha sa (by rw [ma]; exact hM)
 have h0 : losB [a] ((0 : Int), -1) (0, -1) = false := by simp [losB, nmr]
 have he : evid c ss [a] t = [((0 : Int), -1)] := by
  unfold evid
  rw [show [a].length = 1 from rfl, hp, hc]
  simp [h0]
 rw [ofB, he]
 simp only [ofF, vd0, gi0, ma, Bool.false_or]
theorem of2 {c : Ce} {ss : List An} {a b : Li} {t M N : Int} (he : evid c ss [a, b] t = [((0 : Int), -1), (1, -1)]) (ma : maskS c a = M) (mb : maskS c b = N) :
  ofB c ss [a, b] t = if vdR (fndE c a) = 2 then 2 else if vdR (fndE c b) = 2 then 2 else ofE (decide (vdR (fndE c a) = 3) || decide (vdR (fndE c b) = 3)) (bits .or .i64 (bits .or .i64 0 M) N) := by
 have g0 : gi [a, b] 0 = a := rfl
 have g1 : gi [a, b] 1 = b := rfl
 rw [ofB, he]
 simp only [ofF, vd0, vd1, g0, g1, ma, mb, Bool.false_or]
theorem par_ev {m n : Ml} (hm : m.v = authV 0) (hn : n.v = authV 0) {r q : Nat} (k1 : m.kd = .R r) (k2 : n.kd = .R q) (m1 : maskS (uce 5 []) (m.done 0) ≠ 0) (m2 : maskS (uce 5 []) (n.done 0) ≠ 0) (he : m.num = n.num) (tm : (m.this : Int) ≤ 5 ∧ 5 ≤ (m.next : Int)) (tn : (n.this : Int) ≤ 5 ∧ 5 ≤ (n.next : Int)) : evid (uce 5 []) [anc 0] [m.done 0, n.done 0] 5 = [((0 : Int), -1), (1, -1)] :=
 ev_cc (a := m.done 0) (b := n.done 0) (by show m.kd.base = -1; rw [k1]; rfl) (by show n.kd.base = -1; rw [k2]; rfl) (par_sgd hm) (par_sgd hn) m1 m2 (by rw [own_cur]; simp [tm.1, tm.2]) (by rw [own_cur]; simp [tn.1, tn.2]) (by show (m.num : Int) = n.num; rw [he])
end Go.Sta
namespace Go.Proofs.YtnpndfmbkmbhbaaGreatDoor
open Go.Proofs.Tryz
open Go.VS Go.Stp Go.Der Go.Sta
attribute [local irreducible] arun arunD arunU AWp aend verE wr DU.arunD
attribute [local simp] DU.gval
def eC (s r : Int) : V := .sl 1 [.int .i64 s, .int .i64 0, .int .i64 r, .int .i64 (-1), nmV (authN 0)]
def uC (p : V) : List V := [.str [], .str [], .int .i64 5, nmV (authN 0), .sl 0 [], .int .i64 0, .int .i64 0, .int .i64 0, .str [], .str [], .bool false, .bool false, .int .i64 0, .int .i64 0, .sl 0 [], .sl 0 [], .sl 0 [], .int .i64 0, .int .i64 0, .int .i64 0, .sl 0 [], .bool false, .sl 0 [], .sl 0 [], .str [], .str [], p, .sl 0 [], .sl 0 [], .str []]
def lC (raw tbs : List UInt8) (I : V) (a b n c : Int) (has : Bool) (rea : Int) (ind : Bool) (En : V) (sg : List UInt8) (z : V) : List V := [.str raw, .str tbs, I, .int .i64 a, .int .i64 b, .int .i64 n, .int .i64 c, .str [], .bool has, z, .bool false, .bool false, .int .i64 rea, .bool ind, z, En, .str sg]
abbrev pA (r : Nat) : Ml := ⟨authV 0, 1, 9, 1, .R r, some (5, 0, authV 0)⟩
abbrev pB (r : Nat) : Ml := ⟨authV 0, 1, 9, 1, .R r, none⟩
abbrev Rk (r : Nat) : Prop := (2 ≤ r ∧ r ≤ 508) ∧ r % 2 = 0
abbrev I64 (x : Int) : Prop := -9223372036854775808 ≤ x ∧ x ≤ 9223372036854775807
theorem pc0 : PCall prog 14 [.int .i64 5] (.agg (uC (.sl 0 []))) ∧ PCall prog 12 [.int .i64 0] (.agg [nmV (authN 0), .int .i64 0, .str (pubK 0).id, .str (pubK 0).root]) ∧ PCall prog 17 [.int .i64 0] (.agg [nmV (authN 0)]) ∧ PCall prog 19 [.int .i64 0] (rtV (mseedS (1000 + ((0 : Nat) : Int))) 0) ∧ (rtV (mseedS (1000 + ((0 : Nat) : Int))) 0).Pure ∧ ∀ s ∈ [anc 0], WAn s :=
 ⟨user_call 5, anchor_call 0 (by omega), auth_call 0 (by omega), ekey_call 0 (by omega), by unfold rtV; simp, fun s hs => by simp at hs; subst hs; exact anc_w 0⟩
theorem pc1 (x : Int) (hx : I64 x) : ∃ k r q : Nat, GCall prog 10 [.ref 1 0, .int .i64 (254 : Nat)] [[.int .i64 x], [.osl 0 0 1 1, .int .i64 0]] ([[.int .i64 x], [.osl 0 0 1 1, .int .i64 1]] ++ []) (.int .i64 k) ∧ (2 : Int) * (1 + (k : Int)) = (r : Int) ∧ ((1 : Int) + (k : Int)) * 2 = (r : Int) ∧ Rk r ∧ bits .andNot .i64 510 (r : Int) = (q : Int) ∧ q = 510 - r ∧ Rk q := by
 have hbk := dkX_bounds (l := [x]) (a := 0) (n := 254) (by omega)
 obtain ⟨k, ek, lk⟩ : ∃ k : Nat, dkX [x] 0 254 = k ∧ k < 254 := ⟨(dkX [x] 0 254).toNat, by omega, by omega⟩
 have nk := nextP_call x 254 hx (by omega) (by omega)
 rw [ek] at nk
 clear hbk ek
 obtain ⟨r, hr⟩ : ∃ r : Nat, r = 2 * (1 + k) := ⟨_, rfl⟩
 have r2 : r % 2 = 0 := by omega
 exact ⟨k, r, 510 - r, nk, by omega, by omega, ⟨by omega, r2⟩, pR3 r (by omega) r2, rfl, by omega, by omega⟩
theorem pkA (r : Nat) (h : Rk r) : MlOk (pA r) := mk_okE vok0 1 9 1 (.R r) 5 0 (authV 0) (by omega) (by omega) (by omega) (fun b h => by cases h) (fun b h => by cases h; omega) ⟨by omega, by omega, by omega, vok0, fun h => absurd h (by omega), .inl ⟨rfl, n00⟩⟩
theorem pkB (r : Nat) (h : Rk r) : MlOk (pB r) := mk_ok vok0 1 9 1 (.R r) (by omega) (by omega) (by omega) (fun b h => by cases h) (fun b h => by cases h; omega)
theorem psA (r : Nat) (h : Rk r) : PCall prog 18 [.agg (lC [] [] (nmV (authN 0)) 1 9 1 (-1) true r false (eC 5 0) [] .nils), rtV (mseedS (1000 + ((0 : Nat) : Int))) 0, .int .i64 0] (.agg (lC ((pA r).raw 0) (pA r).tbs (nmV (authN 0)) 1 9 1 (-1) true r false (eC 5 0) ((pA r).sgn 0) (.sl 0 []))) := ml_sign _ (pkA r h) 0
theorem psB (r : Nat) (h : Rk r) : PCall prog 18 [.agg (lC [] [] (nmV (authN 0)) 1 9 1 (-1) true r false .nils [] .nils), rtV (mseedS (1000 + ((0 : Nat) : Int))) 0, .int .i64 0] (.agg (lC ((pB r).raw 0) (pB r).tbs (nmV (authN 0)) 1 9 1 (-1) true r false (.sl 0 []) ((pB r).sgn 0) (.sl 0 []))) := ml_sign _ (pkB r h) 0
theorem pmA (r : Nat) (h : Rk r) : maskS (uce 5 []) ((pA r).done 0) = r := par_mask rfl rfl (by omega) (by omega) h.2
theorem pmB (r : Nat) (h : Rk r) : maskS (uce 5 []) ((pB r).done 0) = r := par_mask rfl rfl (by omega) (by omega) h.2
theorem part000_call (x : Int) (hx : I64 x) : PCall prog 7 [.int .i64 x, .bool false, .bool false, .bool false] (.bool true) := by
 have aw := awake28_call
 obtain ⟨u5, an, a0, k0, ky, w1⟩ := pc0
 obtain ⟨k, r, q, nk, e1, e1b, r1, e2, hq, q1⟩ := pc1 x hx
 have sA := psB r r1
 have sB := psB q q1
 have mA := pmB r r1
 have mB := pmB q q1
 have p : PCall prog 13 [.agg (uC (.sl 0 [])), .sl 1 [nmV (authN 0), .int .i64 0, .str (pubK 0).id, .str (pubK 0).root], .nils, .int .i64 5] (.int .i64 0) := by
  have h := of_call (uce 5 []) [anc 0] [] 5 (uce_w 5 (by simp) (by simp)) (by simp) w1 (by simp)
  rw [v_nil] at h
  exact pcall_nza h rfl
 clear w1 mA mB hq
 generalize (pB r).raw 0 = w1 at *
 generalize (pB r).tbs = t1 at *
 generalize (pB r).sgn 0 = g1 at *
 generalize (pB q).raw 0 = w2 at *
 generalize (pB q).tbs = t2 at *
 generalize (pB q).sgn 0 = g2 at *
 generalize (pubK 0).id = ID at *
 generalize (pubK 0).root = RT at *
 generalize rtV (mseedS (1000 + ((0 : Nat) : Int))) 0 = KY at *
 dsimp only [uC, lC, eC, List.cons_append, List.nil_append] at u5 sA sB p
 refine pcall_body func7 rfl call7 ?_ ?_
 rotate_left 1
 refine awp_slots (s' := (.int .i64 x : V) :: (.bool false : V) :: (.bool false : V) :: (.bool false : V) :: zJ 77) rfl ?_; dsimp only [zJ]
 rotate_left 1
 ·exact .bool
 refine awp_seq fun K hK => ?_
 repeat' (first | refine Zr ?_ | refine Zt ?_ | (refine Zk 2 [] ?_; refine Zl ?_) | (refine Yb rfl ?_ ?_ <;> intro hcnd <;> (try simp at hcnd) <;> try exact dc) | refine Zo ?_ | refine Zx ?_ | fail)
 refine hK _ _ ?_; clear hK K
 refine awp_seq fun K hK => ?_
 repeat' (first | ((first | refine Zu ?_ | (refine Zv ?_ ?_; (focus (simp; done)))); intro K9 h9; refine Zd ?_; ((first | refine acall_gen (rows' := [[.int .i64 x]]) (news := [[.osl 0 0 1 1, .int .i64 0]]) [0] [[.int .i64 x]] [[.osl 0 0 1 1, .int .i64 0]] (newP_call x) (by simp) (by simp [rowsOver, rowRen_live]) (by simp) rfl rfl (by simp [behind]) (rc := .ref 1 0) (by simp [behind]) ?_ | refine acall_gen (rows' := [[.int .i64 x], [.osl 0 0 1 1, .int .i64 1]]) (news := []) [0, 1] [[.int .i64 x], [.osl 0 0 1 1, .int .i64 1]] [] nk (by simp) (by simp [rowsOver, rowRen_live]) (by simp) rfl rfl (by simp [behind]) (rc := .int .i64 k) (by simp) ?_ | skip) <;> (refine Zf h9 ?_; clear h9 K9))) | refine Zt ?_ | (refine Zk 2 [] ?_; refine Zl ?_) | (refine Yb rfl ?_ ?_ <;> intro hcnd <;> (try simp at hcnd) <;> try exact dc) | refine Zo ?_ | refine Zx ?_ | fail)
 refine hK _ _ ?_; clear hK K
 (try simp only [e1, e1b])
 repeat' (first | ((first | refine ZuU ?_ | (refine ZvU ?_ ?_; (focus (simp [e2, ky]; done)))); intro K9 h9; simp (disch := first | exact dd | fail) [e2, ky]; refine Zm ?_; ((first | refine Zc u5 ?_ | refine Zc an ?_ | refine Zc aw ?_ | refine Zc a0 ?_ | refine Zc k0 ?_ | refine Zc sA ?_ | refine Zc sB ?_ | refine acall_view p ⟨.pure (by simp), view_row rfl (by simp) (by simp), .pure .nils, .pure .int, trivial⟩ .int ?_ | skip) <;> (refine ZfU h9 ?_; clear h9 K9))) | refine ZtU ?_ | (refine awp_rounds 3 fun KL hL => ?_) | refine Y8 fun K hK => ?_ | (apply hK; clear hK K) | ((first | refine Zk (ops := #[_, _, _, _, _, _, _]) 2 [0, 0, 1, 1, 0, 0, 0] ?_ | refine Zk 2 [] ?_); refine Zl ?_) | (refine Yb rfl ?_ ?_ <;> intro hcnd <;> (try simp at hcnd) <;> try exact dc) | (refine ZnU ?_ ?_; (focus (simp [e2, ky]; done)); refine ZsU ?_) | refine Zx ?_ | clear hK K | (refine hL _ _ _ ?_) | (clear hK K) | (clear hL KL))
 simp
 exact .pure .bool
theorem part001_call (x : Int) (hx : I64 x) : PCall prog 7 [.int .i64 x, .bool false, .bool false, .bool true] (.bool true) := by
 have aw := awake28_call
 obtain ⟨u5, an, a0, k0, ky, w1⟩ := pc0
 obtain ⟨k, r, q, nk, e1, e1b, r1, e2, hq, q1⟩ := pc1 x hx
 have sA := psA r r1
 have sB := psB q q1
 have mA := pmA r r1
 have mB := pmB q q1
 have p : PCall prog 13 [.agg (uC (.sl 0 [])), .sl 1 [nmV (authN 0), .int .i64 0, .str (pubK 0).id, .str (pubK 0).root], .nils, .int .i64 5] (.int .i64 0) := by
  have h := of_call (uce 5 []) [anc 0] [] 5 (uce_w 5 (by simp) (by simp)) (by simp) w1 (by simp)
  rw [v_nil] at h
  exact pcall_nza h rfl
 clear w1 mA mB hq
 generalize (pA r).raw 0 = w1 at *
 generalize (pA r).tbs = t1 at *
 generalize (pA r).sgn 0 = g1 at *
 generalize (pB q).raw 0 = w2 at *
 generalize (pB q).tbs = t2 at *
 generalize (pB q).sgn 0 = g2 at *
 generalize (pubK 0).id = ID at *
 generalize (pubK 0).root = RT at *
 generalize rtV (mseedS (1000 + ((0 : Nat) : Int))) 0 = KY at *
 dsimp only [uC, lC, eC, List.cons_append, List.nil_append] at u5 sA sB p
 refine pcall_body func7 rfl call7 ?_ ?_
 rotate_left 1
 refine awp_slots (s' := (.int .i64 x : V) :: (.bool false : V) :: (.bool false : V) :: (.bool true : V) :: zJ 77) rfl ?_; dsimp only [zJ]
 rotate_left 1
 ·exact .bool
 refine awp_seq fun K hK => ?_
 repeat' (first | refine Zr ?_ | refine Zt ?_ | (refine Zk 2 [] ?_; refine Zl ?_) | (refine Yb rfl ?_ ?_ <;> intro hcnd <;> (try simp at hcnd) <;> try exact dc) | refine Zo ?_ | refine Zx ?_ | fail)
 refine hK _ _ ?_; clear hK K
 refine awp_seq fun K hK => ?_
 repeat' (first | ((first | refine Zu ?_ | (refine Zv ?_ ?_; (focus (simp; done)))); intro K9 h9; refine Zd ?_; ((first | refine acall_gen (rows' := [[.int .i64 x]]) (news := [[.osl 0 0 1 1, .int .i64 0]]) [0] [[.int .i64 x]] [[.osl 0 0 1 1, .int .i64 0]] (newP_call x) (by simp) (by simp [rowsOver, rowRen_live]) (by simp) rfl rfl (by simp [behind]) (rc := .ref 1 0) (by simp [behind]) ?_ | refine acall_gen (rows' := [[.int .i64 x], [.osl 0 0 1 1, .int .i64 1]]) (news := []) [0, 1] [[.int .i64 x], [.osl 0 0 1 1, .int .i64 1]] [] nk (by simp) (by simp [rowsOver, rowRen_live]) (by simp) rfl rfl (by simp [behind]) (rc := .int .i64 k) (by simp) ?_ | skip) <;> (refine Zf h9 ?_; clear h9 K9))) | refine Zt ?_ | (refine Zk 2 [] ?_; refine Zl ?_) | (refine Yb rfl ?_ ?_ <;> intro hcnd <;> (try simp at hcnd) <;> try exact dc) | refine Zo ?_ | refine Zx ?_ | fail)
 refine hK _ _ ?_; clear hK K
 (try simp only [e1, e1b])
 repeat' (first | refine Zz 4 ?_ | ((first | refine ZuU ?_ | (refine ZvU ?_ ?_; (focus (simp [e2, ky]; done)))); intro K9 h9; simp (disch := first | exact dd | fail) [e2, ky]; refine Zm ?_; ((first | refine Zc u5 ?_ | refine Zc an ?_ | refine Zc aw ?_ | refine Zc a0 ?_ | refine Zc k0 ?_ | refine Zc sA ?_ | refine Zc sB ?_ | refine acall_view p ⟨.pure (by simp), view_row rfl (by simp) (by simp), .pure .nils, .pure .int, trivial⟩ .int ?_ | skip) <;> (refine ZfU h9 ?_; clear h9 K9))) | refine ZtU ?_ | (refine awp_rounds 3 fun KL hL => ?_) | refine Y8 fun K hK => ?_ | (apply hK; clear hK K) | ((first | refine Zk (ops := #[_, _, _, _, _, _, _]) 2 [0, 0, 1, 1, 0, 0, 0] ?_ | refine Zk 2 [] ?_); refine Zl ?_) | (refine Yb rfl ?_ ?_ <;> intro hcnd <;> (try simp at hcnd) <;> try exact dc) | (refine ZnU ?_ ?_; (focus (simp [e2, ky]; done)); refine ZsU ?_) | refine Zx ?_ | clear hK K | (refine hL _ _ _ ?_) | (clear hK K) | (clear hL KL))
 simp
 exact .pure .bool
theorem part010_call (x : Int) (hx : I64 x) : PCall prog 7 [.int .i64 x, .bool false, .bool true, .bool false] (.bool true) := by
 have aw := awake28_call
 obtain ⟨u5, an, a0, k0, ky, w1⟩ := pc0
 obtain ⟨k, r, q, nk, e1, e1b, r1, e2, hq, q1⟩ := pc1 x hx
 have sA := psB r r1
 have sB := psB q q1
 have mA := pmB r r1
 have mB := pmB q q1
 have p : PCall prog 13 [.agg (uC (.sl 0 [])), .sl 1 [nmV (authN 0), .int .i64 0, .str (pubK 0).id, .str (pubK 0).root], .sl 1 (lC ((pB q).raw 0) (pB q).tbs (nmV (authN 0)) 1 9 1 (-1) true q false (.sl 0 []) ((pB q).sgn 0) (.sl 0 [])), .int .i64 5] (.int .i64 0) := by
  have h := of_call (uce 5 []) [anc 0] [(pB q).done 0] 5 (uce_w 5 (by simp) (by simp; exact done_wst (pkB q q1) 0)) (by simp) w1 (by simp)
  rw [of1 (a := (pB q).done 0) (M := q) rfl (par_sgd rfl) mB (by omega) (by rw [own_cur]; rfl), fnd_none (m := (pB q)) rfl] at h
  have hv : (if vdR none = 2 then 2 else ofE (decide (vdR none = 3)) (bits .or .i64 0 (q : Int))) = 0 := by
   rw [pR2 q (by omega)]
   simp [vdR, ofE, pR4 q (by omega) q1.2]
   omega
  rw [hv] at h
  exact h
 clear w1 mA mB hq
 generalize (pB r).raw 0 = w1 at *
 generalize (pB r).tbs = t1 at *
 generalize (pB r).sgn 0 = g1 at *
 generalize (pB q).raw 0 = w2 at *
 generalize (pB q).tbs = t2 at *
 generalize (pB q).sgn 0 = g2 at *
 generalize (pubK 0).id = ID at *
 generalize (pubK 0).root = RT at *
 generalize rtV (mseedS (1000 + ((0 : Nat) : Int))) 0 = KY at *
 dsimp only [uC, lC, eC, List.cons_append, List.nil_append] at u5 sA sB p
 refine pcall_body func7 rfl call7 ?_ ?_
 rotate_left 1
 refine awp_slots (s' := (.int .i64 x : V) :: (.bool false : V) :: (.bool true : V) :: (.bool false : V) :: zJ 77) rfl ?_; dsimp only [zJ]
 rotate_left 1
 ·exact .bool
 refine awp_seq fun K hK => ?_
 repeat' (first | refine Zr ?_ | refine Zt ?_ | (refine Zk 2 [] ?_; refine Zl ?_) | (refine Yb rfl ?_ ?_ <;> intro hcnd <;> (try simp at hcnd) <;> try exact dc) | refine Zo ?_ | refine Zx ?_ | fail)
 refine hK _ _ ?_; clear hK K
 refine awp_seq fun K hK => ?_
 repeat' (first | ((first | refine Zu ?_ | (refine Zv ?_ ?_; (focus (simp; done)))); intro K9 h9; refine Zd ?_; ((first | refine acall_gen (rows' := [[.int .i64 x]]) (news := [[.osl 0 0 1 1, .int .i64 0]]) [0] [[.int .i64 x]] [[.osl 0 0 1 1, .int .i64 0]] (newP_call x) (by simp) (by simp [rowsOver, rowRen_live]) (by simp) rfl rfl (by simp [behind]) (rc := .ref 1 0) (by simp [behind]) ?_ | refine acall_gen (rows' := [[.int .i64 x], [.osl 0 0 1 1, .int .i64 1]]) (news := []) [0, 1] [[.int .i64 x], [.osl 0 0 1 1, .int .i64 1]] [] nk (by simp) (by simp [rowsOver, rowRen_live]) (by simp) rfl rfl (by simp [behind]) (rc := .int .i64 k) (by simp) ?_ | skip) <;> (refine Zf h9 ?_; clear h9 K9))) | refine Zt ?_ | (refine Zk 2 [] ?_; refine Zl ?_) | (refine Yb rfl ?_ ?_ <;> intro hcnd <;> (try simp at hcnd) <;> try exact dc) | refine Zo ?_ | refine Zx ?_ | fail)
 refine hK _ _ ?_; clear hK K
 (try simp only [e1, e1b])
 repeat' (first | ((first | refine ZuU ?_ | (refine ZvU ?_ ?_; (focus (simp [e2, ky]; done)))); intro K9 h9; simp (disch := first | exact dd | fail) [e2, ky]; refine Zm ?_; ((first | refine Zc u5 ?_ | refine Zc an ?_ | refine Zc aw ?_ | refine Zc a0 ?_ | refine Zc k0 ?_ | refine Zc sA ?_ | refine Zc sB ?_ | refine acall_view p ⟨.pure (by simp), view_row rfl (by simp) (by simp), view_row rfl (by simp) (by simp), .pure .int, trivial⟩ .int ?_ | skip) <;> (refine ZfU h9 ?_; clear h9 K9))) | refine ZtU ?_ | (refine awp_rounds 3 fun KL hL => ?_) | refine Y8 fun K hK => ?_ | (apply hK; clear hK K) | ((first | refine Zk (ops := #[_, _, _, _, _, _, _]) 2 [0, 0, 1, 1, 0, 0, 0] ?_ | refine Zk 2 [] ?_); refine Zl ?_) | (refine Yb rfl ?_ ?_ <;> intro hcnd <;> (try simp at hcnd) <;> try exact dc) | (refine ZnU ?_ ?_; (focus (simp [e2, ky]; done)); refine ZsU ?_) | refine Zx ?_ | clear hK K | (refine hL _ _ _ ?_) | (clear hK K) | (clear hL KL))
 simp
 exact .pure .bool
theorem part011_call (x : Int) (hx : I64 x) : PCall prog 7 [.int .i64 x, .bool false, .bool true, .bool true] (.bool true) := by
 have aw := awake28_call
 obtain ⟨u5, an, a0, k0, ky, w1⟩ := pc0
 obtain ⟨k, r, q, nk, e1, e1b, r1, e2, hq, q1⟩ := pc1 x hx
 have sA := psA r r1
 have sB := psB q q1
 have mA := pmA r r1
 have mB := pmB q q1
 have p : PCall prog 13 [.agg (uC (.sl 0 [])), .sl 1 [nmV (authN 0), .int .i64 0, .str (pubK 0).id, .str (pubK 0).root], .sl 1 (lC ((pB q).raw 0) (pB q).tbs (nmV (authN 0)) 1 9 1 (-1) true q false (.sl 0 []) ((pB q).sgn 0) (.sl 0 [])), .int .i64 5] (.int .i64 0) := by
  have h := of_call (uce 5 []) [anc 0] [(pB q).done 0] 5 (uce_w 5 (by simp) (by simp; exact done_wst (pkB q q1) 0)) (by simp) w1 (by simp)
  rw [of1 (a := (pB q).done 0) (M := q) rfl (par_sgd rfl) mB (by omega) (by rw [own_cur]; rfl), fnd_none (m := (pB q)) rfl] at h
  have hv : (if vdR none = 2 then 2 else ofE (decide (vdR none = 3)) (bits .or .i64 0 (q : Int))) = 0 := by
   rw [pR2 q (by omega)]
   simp [vdR, ofE, pR4 q (by omega) q1.2]
   omega
  rw [hv] at h
  exact h
 clear w1 mA mB hq
 generalize (pA r).raw 0 = w1 at *
 generalize (pA r).tbs = t1 at *
 generalize (pA r).sgn 0 = g1 at *
 generalize (pB q).raw 0 = w2 at *
 generalize (pB q).tbs = t2 at *
 generalize (pB q).sgn 0 = g2 at *
 generalize (pubK 0).id = ID at *
 generalize (pubK 0).root = RT at *
 generalize rtV (mseedS (1000 + ((0 : Nat) : Int))) 0 = KY at *
 dsimp only [uC, lC, eC, List.cons_append, List.nil_append] at u5 sA sB p
 refine pcall_body func7 rfl call7 ?_ ?_
 rotate_left 1
 refine awp_slots (s' := (.int .i64 x : V) :: (.bool false : V) :: (.bool true : V) :: (.bool true : V) :: zJ 77) rfl ?_; dsimp only [zJ]
 rotate_left 1
 ·exact .bool
 refine awp_seq fun K hK => ?_
 repeat' (first | refine Zr ?_ | refine Zt ?_ | (refine Zk 2 [] ?_; refine Zl ?_) | (refine Yb rfl ?_ ?_ <;> intro hcnd <;> (try simp at hcnd) <;> try exact dc) | refine Zo ?_ | refine Zx ?_ | fail)
 refine hK _ _ ?_; clear hK K
 refine awp_seq fun K hK => ?_
 repeat' (first | ((first | refine Zu ?_ | (refine Zv ?_ ?_; (focus (simp; done)))); intro K9 h9; refine Zd ?_; ((first | refine acall_gen (rows' := [[.int .i64 x]]) (news := [[.osl 0 0 1 1, .int .i64 0]]) [0] [[.int .i64 x]] [[.osl 0 0 1 1, .int .i64 0]] (newP_call x) (by simp) (by simp [rowsOver, rowRen_live]) (by simp) rfl rfl (by simp [behind]) (rc := .ref 1 0) (by simp [behind]) ?_ | refine acall_gen (rows' := [[.int .i64 x], [.osl 0 0 1 1, .int .i64 1]]) (news := []) [0, 1] [[.int .i64 x], [.osl 0 0 1 1, .int .i64 1]] [] nk (by simp) (by simp [rowsOver, rowRen_live]) (by simp) rfl rfl (by simp [behind]) (rc := .int .i64 k) (by simp) ?_ | skip) <;> (refine Zf h9 ?_; clear h9 K9))) | refine Zt ?_ | (refine Zk 2 [] ?_; refine Zl ?_) | (refine Yb rfl ?_ ?_ <;> intro hcnd <;> (try simp at hcnd) <;> try exact dc) | refine Zo ?_ | refine Zx ?_ | fail)
 refine hK _ _ ?_; clear hK K
 (try simp only [e1, e1b])
 repeat' (first | refine Zz 4 ?_ | ((first | refine ZuU ?_ | (refine ZvU ?_ ?_; (focus (simp [e2, ky]; done)))); intro K9 h9; simp (disch := first | exact dd | fail) [e2, ky]; refine Zm ?_; ((first | refine Zc u5 ?_ | refine Zc an ?_ | refine Zc aw ?_ | refine Zc a0 ?_ | refine Zc k0 ?_ | refine Zc sA ?_ | refine Zc sB ?_ | refine acall_view p ⟨.pure (by simp), view_row rfl (by simp) (by simp), view_row rfl (by simp) (by simp), .pure .int, trivial⟩ .int ?_ | skip) <;> (refine ZfU h9 ?_; clear h9 K9))) | refine ZtU ?_ | (refine awp_rounds 3 fun KL hL => ?_) | refine Y8 fun K hK => ?_ | (apply hK; clear hK K) | ((first | refine Zk (ops := #[_, _, _, _, _, _, _]) 2 [0, 0, 1, 1, 0, 0, 0] ?_ | refine Zk 2 [] ?_); refine Zl ?_) | (refine Yb rfl ?_ ?_ <;> intro hcnd <;> (try simp at hcnd) <;> try exact dc) | (refine ZnU ?_ ?_; (focus (simp [e2, ky]; done)); refine ZsU ?_) | refine Zx ?_ | clear hK K | (refine hL _ _ _ ?_) | (clear hK K) | (clear hL KL))
 simp
 exact .pure .bool
theorem part100_call (x : Int) (hx : I64 x) : PCall prog 7 [.int .i64 x, .bool true, .bool false, .bool false] (.bool true) := by
 have aw := awake28_call
 obtain ⟨u5, an, a0, k0, ky, w1⟩ := pc0
 obtain ⟨k, r, q, nk, e1, e1b, r1, e2, hq, q1⟩ := pc1 x hx
 have sA := psB r r1
 have sB := psB q q1
 have mA := pmB r r1
 have mB := pmB q q1
 have p : PCall prog 13 [.agg (uC (.sl 0 [])), .sl 1 [nmV (authN 0), .int .i64 0, .str (pubK 0).id, .str (pubK 0).root], .sl 1 (lC ((pB r).raw 0) (pB r).tbs (nmV (authN 0)) 1 9 1 (-1) true r false (.sl 0 []) ((pB r).sgn 0) (.sl 0 [])), .int .i64 5] (.int .i64 0) := by
  have h := of_call (uce 5 []) [anc 0] [(pB r).done 0] 5 (uce_w 5 (by simp) (by simp; exact done_wst (pkB r r1) 0)) (by simp) w1 (by simp)
  rw [of1 (a := (pB r).done 0) (M := r) rfl (par_sgd rfl) mA (by omega) (by rw [own_cur]; rfl), fnd_none (m := (pB r)) rfl] at h
  have hv : (if vdR none = 2 then 2 else ofE (decide (vdR none = 3)) (bits .or .i64 0 (r : Int))) = 0 := by
   rw [pR2 r (by omega)]
   simp [vdR, ofE, pR4 r (by omega) r1.2]
   omega
  rw [hv] at h
  exact h
 clear w1 mA mB hq
 generalize (pB r).raw 0 = w1 at *
 generalize (pB r).tbs = t1 at *
 generalize (pB r).sgn 0 = g1 at *
 generalize (pB q).raw 0 = w2 at *
 generalize (pB q).tbs = t2 at *
 generalize (pB q).sgn 0 = g2 at *
 generalize (pubK 0).id = ID at *
 generalize (pubK 0).root = RT at *
 generalize rtV (mseedS (1000 + ((0 : Nat) : Int))) 0 = KY at *
 dsimp only [uC, lC, eC, List.cons_append, List.nil_append] at u5 sA sB p
 refine pcall_body func7 rfl call7 ?_ ?_
 rotate_left 1
 refine awp_slots (s' := (.int .i64 x : V) :: (.bool true : V) :: (.bool false : V) :: (.bool false : V) :: zJ 77) rfl ?_; dsimp only [zJ]
 rotate_left 1
 ·exact .bool
 refine awp_seq fun K hK => ?_
 repeat' (first | refine Zr ?_ | refine Zt ?_ | (refine Zk 2 [] ?_; refine Zl ?_) | (refine Yb rfl ?_ ?_ <;> intro hcnd <;> (try simp at hcnd) <;> try exact dc) | refine Zo ?_ | refine Zx ?_ | fail)
 refine hK _ _ ?_; clear hK K
 refine awp_seq fun K hK => ?_
 repeat' (first | ((first | refine Zu ?_ | (refine Zv ?_ ?_; (focus (simp; done)))); intro K9 h9; refine Zd ?_; ((first | refine acall_gen (rows' := [[.int .i64 x]]) (news := [[.osl 0 0 1 1, .int .i64 0]]) [0] [[.int .i64 x]] [[.osl 0 0 1 1, .int .i64 0]] (newP_call x) (by simp) (by simp [rowsOver, rowRen_live]) (by simp) rfl rfl (by simp [behind]) (rc := .ref 1 0) (by simp [behind]) ?_ | refine acall_gen (rows' := [[.int .i64 x], [.osl 0 0 1 1, .int .i64 1]]) (news := []) [0, 1] [[.int .i64 x], [.osl 0 0 1 1, .int .i64 1]] [] nk (by simp) (by simp [rowsOver, rowRen_live]) (by simp) rfl rfl (by simp [behind]) (rc := .int .i64 k) (by simp) ?_ | skip) <;> (refine Zf h9 ?_; clear h9 K9))) | refine Zt ?_ | (refine Zk 2 [] ?_; refine Zl ?_) | (refine Yb rfl ?_ ?_ <;> intro hcnd <;> (try simp at hcnd) <;> try exact dc) | refine Zo ?_ | refine Zx ?_ | fail)
 refine hK _ _ ?_; clear hK K
 (try simp only [e1, e1b])
 repeat' (first | ((first | refine ZuU ?_ | (refine ZvU ?_ ?_; (focus (simp [e2, ky]; done)))); intro K9 h9; simp (disch := first | exact dd | fail) [e2, ky]; refine Zm ?_; ((first | refine Zc u5 ?_ | refine Zc an ?_ | refine Zc aw ?_ | refine Zc a0 ?_ | refine Zc k0 ?_ | refine Zc sA ?_ | refine Zc sB ?_ | refine acall_view p ⟨.pure (by simp), view_row rfl (by simp) (by simp), view_row rfl (by simp) (by simp), .pure .int, trivial⟩ .int ?_ | skip) <;> (refine ZfU h9 ?_; clear h9 K9))) | refine ZtU ?_ | (refine awp_rounds 3 fun KL hL => ?_) | refine Y8 fun K hK => ?_ | (apply hK; clear hK K) | ((first | refine Zk (ops := #[_, _, _, _, _, _, _]) 2 [0, 0, 1, 1, 0, 0, 0] ?_ | refine Zk 2 [] ?_); refine Zl ?_) | (refine Yb rfl ?_ ?_ <;> intro hcnd <;> (try simp at hcnd) <;> try exact dc) | (refine ZnU ?_ ?_; (focus (simp [e2, ky]; done)); refine ZsU ?_) | refine Zx ?_ | clear hK K | (refine hL _ _ _ ?_) | (clear hK K) | (clear hL KL))
 simp
 exact .pure .bool
theorem part101_call (x : Int) (hx : I64 x) : PCall prog 7 [.int .i64 x, .bool true, .bool false, .bool true] (.bool true) := by
 have aw := awake28_call
 obtain ⟨u5, an, a0, k0, ky, w1⟩ := pc0
 obtain ⟨k, r, q, nk, e1, e1b, r1, e2, hq, q1⟩ := pc1 x hx
 have sA := psA r r1
 have sB := psB q q1
 have mA := pmA r r1
 have mB := pmB q q1
 have p : PCall prog 13 [.agg (uC (.sl 0 [])), .sl 1 [nmV (authN 0), .int .i64 0, .str (pubK 0).id, .str (pubK 0).root], .sl 1 (lC ((pA r).raw 0) (pA r).tbs (nmV (authN 0)) 1 9 1 (-1) true r false (eC 5 0) ((pA r).sgn 0) (.sl 0 [])), .int .i64 5] (.int .i64 2) := by
  have h := of_call (uce 5 []) [anc 0] [(pA r).done 0] 5 (uce_w 5 (by simp) (by simp; exact done_wst (pkA r r1) 0)) (by simp) w1 (by simp)
  rw [of1 (a := (pA r).done 0) (M := r) rfl (par_sgd rfl) mA (by omega) (by rw [own_cur]; rfl), fnd_some (s := 5) (r := 0) (w := authV 0) rfl rfl n00] at h
  exact h
 clear w1 mA mB hq
 generalize (pA r).raw 0 = w1 at *
 generalize (pA r).tbs = t1 at *
 generalize (pA r).sgn 0 = g1 at *
 generalize (pB q).raw 0 = w2 at *
 generalize (pB q).tbs = t2 at *
 generalize (pB q).sgn 0 = g2 at *
 generalize (pubK 0).id = ID at *
 generalize (pubK 0).root = RT at *
 generalize rtV (mseedS (1000 + ((0 : Nat) : Int))) 0 = KY at *
 dsimp only [uC, lC, eC, List.cons_append, List.nil_append] at u5 sA sB p
 refine pcall_body func7 rfl call7 ?_ ?_
 rotate_left 1
 refine awp_slots (s' := (.int .i64 x : V) :: (.bool true : V) :: (.bool false : V) :: (.bool true : V) :: zJ 77) rfl ?_; dsimp only [zJ]
 rotate_left 1
 ·exact .bool
 refine awp_seq fun K hK => ?_
 repeat' (first | refine Zr ?_ | refine Zt ?_ | (refine Zk 2 [] ?_; refine Zl ?_) | (refine Yb rfl ?_ ?_ <;> intro hcnd <;> (try simp at hcnd) <;> try exact dc) | refine Zo ?_ | refine Zx ?_ | fail)
 refine hK _ _ ?_; clear hK K
 refine awp_seq fun K hK => ?_
 repeat' (first | ((first | refine Zu ?_ | (refine Zv ?_ ?_; (focus (simp; done)))); intro K9 h9; refine Zd ?_; ((first | refine acall_gen (rows' := [[.int .i64 x]]) (news := [[.osl 0 0 1 1, .int .i64 0]]) [0] [[.int .i64 x]] [[.osl 0 0 1 1, .int .i64 0]] (newP_call x) (by simp) (by simp [rowsOver, rowRen_live]) (by simp) rfl rfl (by simp [behind]) (rc := .ref 1 0) (by simp [behind]) ?_ | refine acall_gen (rows' := [[.int .i64 x], [.osl 0 0 1 1, .int .i64 1]]) (news := []) [0, 1] [[.int .i64 x], [.osl 0 0 1 1, .int .i64 1]] [] nk (by simp) (by simp [rowsOver, rowRen_live]) (by simp) rfl rfl (by simp [behind]) (rc := .int .i64 k) (by simp) ?_ | skip) <;> (refine Zf h9 ?_; clear h9 K9))) | refine Zt ?_ | (refine Zk 2 [] ?_; refine Zl ?_) | (refine Yb rfl ?_ ?_ <;> intro hcnd <;> (try simp at hcnd) <;> try exact dc) | refine Zo ?_ | refine Zx ?_ | fail)
 refine hK _ _ ?_; clear hK K
 (try simp only [e1, e1b])
 repeat' (first | refine Zz 4 ?_ | ((first | refine ZuU ?_ | (refine ZvU ?_ ?_; (focus (simp [e2, ky]; done)))); intro K9 h9; simp (disch := first | exact dd | fail) [e2, ky]; refine Zm ?_; ((first | refine Zc u5 ?_ | refine Zc an ?_ | refine Zc aw ?_ | refine Zc a0 ?_ | refine Zc k0 ?_ | refine Zc sA ?_ | refine Zc sB ?_ | refine acall_view p ⟨.pure (by simp), view_row rfl (by simp) (by simp), view_row rfl (by simp) (by simp), .pure .int, trivial⟩ .int ?_ | skip) <;> (refine ZfU h9 ?_; clear h9 K9))) | refine ZtU ?_ | (refine awp_rounds 3 fun KL hL => ?_) | refine Y8 fun K hK => ?_ | (apply hK; clear hK K) | ((first | refine Zk (ops := #[_, _, _, _, _, _, _]) 2 [0, 0, 1, 1, 0, 0, 0] ?_ | refine Zk 2 [] ?_); refine Zl ?_) | (refine Yb rfl ?_ ?_ <;> intro hcnd <;> (try simp at hcnd) <;> try exact dc) | (refine ZnU ?_ ?_; (focus (simp [e2, ky]; done)); refine ZsU ?_) | refine Zx ?_ | clear hK K | (refine hL _ _ _ ?_) | (clear hK K) | (clear hL KL))
 simp
 exact .pure .bool
theorem part110_call (x : Int) (hx : I64 x) : PCall prog 7 [.int .i64 x, .bool true, .bool true, .bool false] (.bool true) := by
 have aw := awake28_call
 obtain ⟨u5, an, a0, k0, ky, w1⟩ := pc0
 obtain ⟨k, r, q, nk, e1, e1b, r1, e2, hq, q1⟩ := pc1 x hx
 have sA := psB r r1
 have sB := psB q q1
 have mA := pmB r r1
 have mB := pmB q q1
 have p : PCall prog 13 [.agg (uC (.sl 0 [])), .sl 1 [nmV (authN 0), .int .i64 0, .str (pubK 0).id, .str (pubK 0).root], .sl 2 (lC ((pB r).raw 0) (pB r).tbs (nmV (authN 0)) 1 9 1 (-1) true r false (.sl 0 []) ((pB r).sgn 0) (.sl 0 []) ++ lC ((pB q).raw 0) (pB q).tbs (nmV (authN 0)) 1 9 1 (-1) true q false (.sl 0 []) ((pB q).sgn 0) (.sl 0 [])), .int .i64 5] (.int .i64 1) := by
  have h := of_call (uce 5 []) [anc 0] [(pB r).done 0, (pB q).done 0] 5 (uce_w 5 (by simp) (by simp; exact ⟨done_wst (pkB r r1) 0, done_wst (pkB q q1) 0⟩)) (by simp) w1 (by simp)
  have ev : evid (uce 5 []) [anc 0] [(pB r).done 0, (pB q).done 0] 5 = [((0 : Int), -1), (1, -1)] := par_ev rfl rfl rfl rfl (by rw [mA]; omega) (by rw [mB]; omega) rfl ⟨by show (1 : Int) ≤ 5; omega, by show (5 : Int) ≤ 9; omega⟩ ⟨by show (1 : Int) ≤ 5; omega, by show (5 : Int) ≤ 9; omega⟩
  rw [of2 ev mA mB, fnd_none (m := (pB r)) rfl, fnd_none (m := (pB q)) rfl] at h
  have hv : (if vdR none = 2 then 2 else if vdR none = 2 then 2 else ofE (decide (vdR none = 3) || decide (vdR none = 3)) (bits .or .i64 (bits .or .i64 0 (r : Int)) (q : Int))) = 1 := by
   rw [pR2 r (by omega), hq]
   simp only [vdR, ofE]
   rw [pR5 r (by omega) r1.2]
   simp
  rw [hv] at h
  exact h
 clear w1 mA mB hq
 generalize (pB r).raw 0 = w1 at *
 generalize (pB r).tbs = t1 at *
 generalize (pB r).sgn 0 = g1 at *
 generalize (pB q).raw 0 = w2 at *
 generalize (pB q).tbs = t2 at *
 generalize (pB q).sgn 0 = g2 at *
 generalize (pubK 0).id = ID at *
 generalize (pubK 0).root = RT at *
 generalize rtV (mseedS (1000 + ((0 : Nat) : Int))) 0 = KY at *
 dsimp only [uC, lC, eC, List.cons_append, List.nil_append] at u5 sA sB p
 refine pcall_body func7 rfl call7 ?_ ?_
 rotate_left 1
 refine awp_slots (s' := (.int .i64 x : V) :: (.bool true : V) :: (.bool true : V) :: (.bool false : V) :: zJ 77) rfl ?_; dsimp only [zJ]
 rotate_left 1
 ·exact .bool
 refine awp_seq fun K hK => ?_
 repeat' (first | refine Zr ?_ | refine Zt ?_ | (refine Zk 2 [] ?_; refine Zl ?_) | (refine Yb rfl ?_ ?_ <;> intro hcnd <;> (try simp at hcnd) <;> try exact dc) | refine Zo ?_ | refine Zx ?_ | fail)
 refine hK _ _ ?_; clear hK K
 refine awp_seq fun K hK => ?_
 repeat' (first | ((first | refine Zu ?_ | (refine Zv ?_ ?_; (focus (simp; done)))); intro K9 h9; refine Zd ?_; ((first | refine acall_gen (rows' := [[.int .i64 x]]) (news := [[.osl 0 0 1 1, .int .i64 0]]) [0] [[.int .i64 x]] [[.osl 0 0 1 1, .int .i64 0]] (newP_call x) (by simp) (by simp [rowsOver, rowRen_live]) (by simp) rfl rfl (by simp [behind]) (rc := .ref 1 0) (by simp [behind]) ?_ | refine acall_gen (rows' := [[.int .i64 x], [.osl 0 0 1 1, .int .i64 1]]) (news := []) [0, 1] [[.int .i64 x], [.osl 0 0 1 1, .int .i64 1]] [] nk (by simp) (by simp [rowsOver, rowRen_live]) (by simp) rfl rfl (by simp [behind]) (rc := .int .i64 k) (by simp) ?_ | skip) <;> (refine Zf h9 ?_; clear h9 K9))) | refine Zt ?_ | (refine Zk 2 [] ?_; refine Zl ?_) | (refine Yb rfl ?_ ?_ <;> intro hcnd <;> (try simp at hcnd) <;> try exact dc) | refine Zo ?_ | refine Zx ?_ | fail)
 refine hK _ _ ?_; clear hK K
 (try simp only [e1, e1b])
 repeat' (first | ((first | refine ZuU ?_ | (refine ZvU ?_ ?_; (focus (simp [e2, ky]; done)))); intro K9 h9; simp (disch := first | exact dd | fail) [e2, ky]; refine Zm ?_; ((first | refine Zc u5 ?_ | refine Zc an ?_ | refine Zc aw ?_ | refine Zc a0 ?_ | refine Zc k0 ?_ | refine Zc sA ?_ | refine Zc sB ?_ | refine acall_view p ⟨.pure (by simp), view_row rfl (by simp) (by simp), view_row rfl (by simp) (by simp), .pure .int, trivial⟩ .int ?_ | skip) <;> (refine ZfU h9 ?_; clear h9 K9))) | refine ZtU ?_ | (refine awp_rounds 3 fun KL hL => ?_) | refine Y8 fun K hK => ?_ | (apply hK; clear hK K) | ((first | refine Zk (ops := #[_, _, _, _, _, _, _]) 2 [0, 0, 1, 1, 0, 0, 0] ?_ | refine Zk 2 [] ?_); refine Zl ?_) | (refine Yb rfl ?_ ?_ <;> intro hcnd <;> (try simp at hcnd) <;> try exact dc) | (refine ZnU ?_ ?_; (focus (simp [e2, ky]; done)); refine ZsU ?_) | refine Zx ?_ | clear hK K | (refine hL _ _ _ ?_) | (clear hK K) | (clear hL KL))
 simp
 exact .pure .bool
theorem part111_call (x : Int) (hx : I64 x) : PCall prog 7 [.int .i64 x, .bool true, .bool true, .bool true] (.bool true) := by
 have aw := awake28_call
 obtain ⟨u5, an, a0, k0, ky, w1⟩ := pc0
 obtain ⟨k, r, q, nk, e1, e1b, r1, e2, hq, q1⟩ := pc1 x hx
 have sA := psA r r1
 have sB := psB q q1
 have mA := pmA r r1
 have mB := pmB q q1
 have p : PCall prog 13 [.agg (uC (.sl 0 [])), .sl 1 [nmV (authN 0), .int .i64 0, .str (pubK 0).id, .str (pubK 0).root], .sl 2 (lC ((pA r).raw 0) (pA r).tbs (nmV (authN 0)) 1 9 1 (-1) true r false (eC 5 0) ((pA r).sgn 0) (.sl 0 []) ++ lC ((pB q).raw 0) (pB q).tbs (nmV (authN 0)) 1 9 1 (-1) true q false (.sl 0 []) ((pB q).sgn 0) (.sl 0 [])), .int .i64 5] (.int .i64 2) := by
  have h := of_call (uce 5 []) [anc 0] [(pA r).done 0, (pB q).done 0] 5 (uce_w 5 (by simp) (by simp; exact ⟨done_wst (pkA r r1) 0, done_wst (pkB q q1) 0⟩)) (by simp) w1 (by simp)
  have ev : evid (uce 5 []) [anc 0] [(pA r).done 0, (pB q).done 0] 5 = [((0 : Int), -1), (1, -1)] := par_ev rfl rfl rfl rfl (by rw [mA]; omega) (by rw [mB]; omega) rfl ⟨by show (1 : Int) ≤ 5; omega, by show (5 : Int) ≤ 9; omega⟩ ⟨by show (1 : Int) ≤ 5; omega, by show (5 : Int) ≤ 9; omega⟩
  rw [of2 ev mA mB, fnd_some (s := 5) (r := 0) (w := authV 0) rfl rfl n00, fnd_none (m := (pB q)) rfl] at h
  exact h
 clear w1 mA mB hq
 generalize (pA r).raw 0 = w1 at *
 generalize (pA r).tbs = t1 at *
 generalize (pA r).sgn 0 = g1 at *
 generalize (pB q).raw 0 = w2 at *
 generalize (pB q).tbs = t2 at *
 generalize (pB q).sgn 0 = g2 at *
 generalize (pubK 0).id = ID at *
 generalize (pubK 0).root = RT at *
 generalize rtV (mseedS (1000 + ((0 : Nat) : Int))) 0 = KY at *
 dsimp only [uC, lC, eC, List.cons_append, List.nil_append] at u5 sA sB p
 refine pcall_body func7 rfl call7 ?_ ?_
 rotate_left 1
 refine awp_slots (s' := (.int .i64 x : V) :: (.bool true : V) :: (.bool true : V) :: (.bool true : V) :: zJ 77) rfl ?_; dsimp only [zJ]
 rotate_left 1
 ·exact .bool
 refine awp_seq fun K hK => ?_
 repeat' (first | refine Zr ?_ | refine Zt ?_ | (refine Zk 2 [] ?_; refine Zl ?_) | (refine Yb rfl ?_ ?_ <;> intro hcnd <;> (try simp at hcnd) <;> try exact dc) | refine Zo ?_ | refine Zx ?_ | fail)
 refine hK _ _ ?_; clear hK K
 refine awp_seq fun K hK => ?_
 repeat' (first | ((first | refine Zu ?_ | (refine Zv ?_ ?_; (focus (simp; done)))); intro K9 h9; refine Zd ?_; ((first | refine acall_gen (rows' := [[.int .i64 x]]) (news := [[.osl 0 0 1 1, .int .i64 0]]) [0] [[.int .i64 x]] [[.osl 0 0 1 1, .int .i64 0]] (newP_call x) (by simp) (by simp [rowsOver, rowRen_live]) (by simp) rfl rfl (by simp [behind]) (rc := .ref 1 0) (by simp [behind]) ?_ | refine acall_gen (rows' := [[.int .i64 x], [.osl 0 0 1 1, .int .i64 1]]) (news := []) [0, 1] [[.int .i64 x], [.osl 0 0 1 1, .int .i64 1]] [] nk (by simp) (by simp [rowsOver, rowRen_live]) (by simp) rfl rfl (by simp [behind]) (rc := .int .i64 k) (by simp) ?_ | skip) <;> (refine Zf h9 ?_; clear h9 K9))) | refine Zt ?_ | (refine Zk 2 [] ?_; refine Zl ?_) | (refine Yb rfl ?_ ?_ <;> intro hcnd <;> (try simp at hcnd) <;> try exact dc) | refine Zo ?_ | refine Zx ?_ | fail)
 refine hK _ _ ?_; clear hK K
 (try simp only [e1, e1b])
 repeat' (first | refine Zz 4 ?_ | ((first | refine ZuU ?_ | (refine ZvU ?_ ?_; (focus (simp [e2, ky]; done)))); intro K9 h9; simp (disch := first | exact dd | fail) [e2, ky]; refine Zm ?_; ((first | refine Zc u5 ?_ | refine Zc an ?_ | refine Zc aw ?_ | refine Zc a0 ?_ | refine Zc k0 ?_ | refine Zc sA ?_ | refine Zc sB ?_ | refine acall_view p ⟨.pure (by simp), view_row rfl (by simp) (by simp), view_row rfl (by simp) (by simp), .pure .int, trivial⟩ .int ?_ | skip) <;> (refine ZfU h9 ?_; clear h9 K9))) | refine ZtU ?_ | (refine awp_rounds 3 fun KL hL => ?_) | refine Y8 fun K hK => ?_ | (apply hK; clear hK K) | ((first | refine Zk (ops := #[_, _, _, _, _, _, _]) 2 [0, 0, 1, 1, 0, 0, 0] ?_ | refine Zk 2 [] ?_); refine Zl ?_) | (refine Yb rfl ?_ ?_ <;> intro hcnd <;> (try simp at hcnd) <;> try exact dc) | (refine ZnU ?_ ?_; (focus (simp [e2, ky]; done)); refine ZsU ?_) | refine Zx ?_ | clear hK K | (refine hL _ _ _ ?_) | (clear hK K) | (clear hL KL))
 simp
 exact .pure .bool
theorem part_call (x : Int) (first second revoked : Bool) (hx : I64 x) : PCall prog 7 [.int .i64 x, .bool first, .bool second, .bool revoked] (.bool true) := by
 cases first <;> cases second <;> cases revoked
 ·exact part000_call x hx
 ·exact part001_call x hx
 ·exact part010_call x hx
 ·exact part011_call x hx
 ·exact part100_call x hx
 ·exact part101_call x hx
 ·exact part110_call x hx
 ·exact part111_call x hx
theorem fitsB {P : Program} {t : TypeId} {f : Nat} {x : V} (ht : P.underlying t = some .bool) (h : FitsV P (f + 1) t x) : ∃ b, x = .bool b := by
 simpa [FitsV, ht, Fits] using h
theorem part_fits : ∀ xs, FitsAll prog 8 Tryz.f7.params.toList xs → PCall prog 7 xs (.bool true) := by
 intro xs h
 rw [show Tryz.f7.params.toList = [3, 4, 4, 4] by kernel_rfl] at h
 obtain ⟨x1, xs, rfl, h1, h⟩ := fitsAll_cons h
 obtain ⟨x2, xs, rfl, h2, h⟩ := fitsAll_cons h
 obtain ⟨x3, xs, rfl, h3, h⟩ := fitsAll_cons h
 obtain ⟨x4, xs, rfl, h4, h⟩ := fitsAll_cons h
 obtain rfl := fitsAll_nil h
 obtain ⟨n, hn, rfl⟩ := fits_int (by kernel_rfl) h1
 obtain ⟨b2, rfl⟩ := fitsB (by kernel_rfl) h2
 obtain ⟨b3, rfl⟩ := fitsB (by kernel_rfl) h3
 obtain ⟨b4, rfl⟩ := fitsB (by kernel_rfl) h4
 exact part_call n b2 b3 b4 hn
end Go.Proofs.YtnpndfmbkmbhbaaGreatDoor

