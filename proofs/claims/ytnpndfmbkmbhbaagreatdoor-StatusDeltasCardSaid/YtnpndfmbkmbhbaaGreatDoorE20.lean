/-
 STATUS: StatusDeltas.
 Conditions: none.
-/
import Derived.Test.YtnpndfmbkmbhbaaGreatDoorEe
set_option maxRecDepth 100000
set_option maxHeartbeats 32000000
set_option linter.all false
namespace Go.Sta
open Go.VS Go.Stp Go.Der Go.Proofs.YtnpndfmbkmbhbaaGreatDoor
def fR (X : Int) : Option En := if X = -1 then none else some ⟨5, 0, X, -1, nm1 (authV 0)⟩
def wF (z : Int) : Int := if z = -1 ∨ z = 8 then 1 else if z = 6 then 3 else 2
theorem wF_fR (X : Int) : stV (vdR (fR X)) = wF X := by
 unfold fR wF
 by_cases h1 : X = -1
 ·simp [h1, vdR, stV]
 ·rw [if_neg h1]
  by_cases h8 : X = 8
  ·simp [h8, vdR, stV]
  ·by_cases h6 : X = 6
   ·simp [h6, vdR, stV]
   ·simp [h1, h8, h6, vdR, stV]
theorem or_fR (X Y : Int) : (fR Y).or (fR X) = fR (if Y = -1 then X else Y) := by
 by_cases h : Y = -1
 ·simp [fR, h]
 ·simp [fR, h]
structure SgA (P : Program) (f : FuncId) (num : Nat) (kd : Kd) (X : Int) (a : Li) : Prop where
 w : WSt a
 call : PCall P f [.int .i64 num, .int .i64 kd.base, .int .i64 5, .int .i64 X] (.agg a.c)
 fnd : fndE (uce 5 []) a = fR X
 ex : ∃ m : Ml, a = m.done 0 ∧ Own0 m ∧ m.kd = kd ∧ m.num = num ∧ m.this = 1 ∧ m.next = 9
end Go.Sta
namespace Go.Proofs.YtnpndfmbkmbhbaaGreatDoor
open Go.Proofs.Tryz
open Go.VS Go.Stp Go.Der Go.Sta
attribute [local irreducible] arun arunD arunU AWp aend verE wr DU.arunD
attribute [local simp] DU.gval
theorem sgA (num : Nat) (kd : Kd) (hn : num < 100) (hk : kd = .N ∨ ∃ b, kd = .D b ∧ b < num) (X : Int) (hX : X = -1 ∨ X = 1 ∨ X = 6 ∨ X = 0 ∨ (X = 8 ∧ ∃ b, kd = .D b)) : ∃ a, SgA prog 11 num kd X a := by
 have hk2 : kd = .N ∨ ∃ b, kd = .D b := by
  rcases hk with h | ⟨b, h, -⟩
  ·exact .inl h
  ·exact .inr ⟨b, h⟩
 have key : ∀ r : Nat, (r = 0 ∨ r = 1 ∨ r = 6 ∨ r = 8) → (r = 8 → ∃ b, kd = .D b) → ∃ a, SgA prog 11 num kd r a := fun r hr h8 => by
  have ok := mlS_okE num kd 5 r hn hk (by omega) hr h8
  refine ⟨_, done_wst ok 0, signedE_call 5 r num kd hk2 ok, ?_, _, rfl, mlS_own num kd _ hk2, rfl, rfl, rfl, rfl⟩
  rw [fnd_some (s := 5) (r := r) (w := authV 0) rfl rfl n00, fR, if_neg (by omega)]
  rfl
 rcases hX with rfl | rfl | rfl | rfl | ⟨rfl, h8⟩
 ·have ok := mlS_ok num kd hn hk
  exact ⟨_, done_wst ok 0, signedN_call num kd hk2 ok 5 (-1) (by omega), fnd_none rfl, _, rfl, mlS_own num kd _ hk2, rfl, rfl, rfl, rfl⟩
 ·exact key 1 (by omega) (by omega)
 ·exact key 6 (by omega) (by omega)
 ·exact key 0 (by omega) (by omega)
 ·exact key 8 (by omega) (fun _ => h8)
theorem sg_cd {num n2 b : Nat} {X Y : Int} {a d : Li} (ha : SgA prog 11 num .N X a) (hd : SgA prog 11 n2 (.D b) Y d) : ofB (uce 5 []) [anc 0] [a, d] 5 = wF (if b ≤ num ∧ num < n2 ∧ Y ≠ -1 then Y else X) := by
 obtain ⟨m, e1, o1, k1, m1, t1, x1⟩ := ha.ex
 obtain ⟨n, e2, o2, k2, m2, t2, x2⟩ := hd.ex
 have f1 := ha.fnd
 have f2 := hd.fnd
 subst e1
 subst e2
 rw [v_cd o1 o2 k1 k2, f1, f2, m1, m2, t1, t2, x1, x2, or_fR, wF_fR, wF_fR]
 by_cases h : b ≤ num ∧ num < n2
 ·rw [if_pos ⟨⟨by omega, by omega⟩, by decide, by decide⟩]
  by_cases hY : Y = -1
  ·rw [if_pos hY, if_neg (fun h => h.2.2 hY)]
  ·rw [if_neg hY, if_pos ⟨h.1, h.2, hY⟩]
 ·rw [if_neg (fun h' => h ⟨by omega, by omega⟩), if_pos (by decide), if_neg (fun h' => h ⟨h'.1, h'.2.1⟩)]
theorem deltas_call (x y z u v : Int) (hx : -9223372036854775808 ≤ x ∧ x ≤ 9223372036854775807) (hy : -9223372036854775808 ≤ y ∧ y ≤ 9223372036854775807) (hz : -9223372036854775808 ≤ z ∧ z ≤ 9223372036854775807) (hu : -9223372036854775808 ≤ u ∧ u ≤ 9223372036854775807) (hv : -9223372036854775808 ≤ v ∧ v ≤ 9223372036854775807) : PCall prog 5 [.int .i64 x, .int .i64 y, .int .i64 z, .int .i64 u, .int .i64 v] (.bool true) := by
 have aw := awake28_call
 have u5 : PCall prog 14 [.int .i64 5] (.agg [.str [], .str [], .int .i64 5, nmV (authN 0), .sl 0 [], .int .i64 0, .int .i64 0, .int .i64 0, .str [], .str [], .bool false, .bool false, .int .i64 0, .int .i64 0, .sl 0 [], .sl 0 [], .sl 0 [], .int .i64 0, .int .i64 0, .int .i64 0, .sl 0 [], .bool false, .sl 0 [], .sl 0 [], .str [], .str [], .sl 0 [], .sl 0 [], .sl 0 [], .str []]) := user_call 5
 have an : PCall prog 12 [.int .i64 0] (.agg [nmV (authN 0), .int .i64 0, .str (pubK 0).id, .str (pubK 0).root]) := anchor_call 0 (by omega)
 have w1 : ∀ s ∈ [anc 0], WAn s := fun s hs => by simp at hs; subst hs; exact anc_w 0
 have hbkx := dkX_bounds (l := [x]) (a := 0) (n := 4) (by omega)
 obtain ⟨kx, ekx, lkx⟩ : ∃ k : Nat, dkX [x] 0 4 = k ∧ k < 4 := ⟨(dkX [x] 0 4).toNat, by omega, by omega⟩
 have nkx := nextP_call x 4 hx (by omega) (by omega)
 rw [ekx] at nkx
 clear hbkx ekx
 have hbky := dkX_bounds (l := [y]) (a := 0) (n := 5) (by omega)
 obtain ⟨ky, eky, lky⟩ : ∃ k : Nat, dkX [y] 0 5 = k ∧ k < 5 := ⟨(dkX [y] 0 5).toNat, by omega, by omega⟩
 have nky := nextP_call y 5 hy (by omega) (by omega)
 rw [eky] at nky
 clear hbky eky
 have hbkn := dkX_bounds (l := [z]) (a := 0) (n := 5) (by omega)
 obtain ⟨kn, ekn, lkn⟩ : ∃ k : Nat, dkX [z] 0 5 = k ∧ k < 5 := ⟨(dkX [z] 0 5).toNat, by omega, by omega⟩
 have nkn := nextP_call z 5 hz (by omega) (by omega)
 rw [ekn] at nkn
 clear hbkn ekn
 obtain ⟨nn, hnn⟩ : ∃ nn : Nat, nn = 2 + kn := ⟨_, rfl⟩
 have e1 : (2 : Int) + (kn : Int) = (nn : Int) := by omega
 have lnn : 2 ≤ nn ∧ nn ≤ 6 := by omega
 have hbb := dkX_bounds (l := [u]) (a := 0) (n := nn) (by omega)
 obtain ⟨bb, ebb, lbb⟩ : ∃ k : Nat, dkX [u] 0 nn = k ∧ k < nn := ⟨(dkX [u] 0 nn).toNat, by omega, by omega⟩
 have nbb := nextP_call u nn hu (by omega) (by omega)
 rw [ebb] at nbb
 clear hbb ebb
 have hbkk := dkX_bounds (l := [v]) (a := 0) (n := 8) (by omega)
 obtain ⟨kk, ekk, lkk⟩ : ∃ k : Nat, dkX [v] 0 8 = k ∧ k < 8 := ⟨(dkX [v] 0 8).toNat, by omega, by omega⟩
 have nkk := nextP_call v 8 hv (by omega) (by omega)
 rw [ekk] at nkk
 clear hbkk ekk
 obtain ⟨nk, hnk⟩ : ∃ nk : Nat, nk = 1 + kk := ⟨_, rfl⟩
 have e2 : (1 : Int) + (kk : Int) = (nk : Int) := by omega
 have lnk : nk ≤ 8 := by omega
 obtain ⟨X, hX, hX2⟩ : ∃ X : Int, (X = -1 ∨ X = 1 ∨ X = 6 ∨ X = 0) ∧ ([V.int .i64 (-1), .int .i64 1, .int .i64 6, .int .i64 0, .int .i64 8] : List V)[kx]'(by simp; omega) = .int .i64 X := by
  match kx, lkx with
  | 0, _ => exact ⟨-1, by omega, rfl⟩
  | 1, _ => exact ⟨1, by omega, rfl⟩
  | 2, _ => exact ⟨6, by omega, rfl⟩
  | 3, _ => exact ⟨0, by omega, rfl⟩
 obtain ⟨Y, hY, hY2⟩ : ∃ Y : Int, (Y = -1 ∨ Y = 1 ∨ Y = 6 ∨ Y = 0 ∨ Y = 8) ∧ ([V.int .i64 (-1), .int .i64 1, .int .i64 6, .int .i64 0, .int .i64 8] : List V)[ky]'(by simp; omega) = .int .i64 Y := by
  match ky, lky with
  | 0, _ => exact ⟨-1, by omega, rfl⟩
  | 1, _ => exact ⟨1, by omega, rfl⟩
  | 2, _ => exact ⟨6, by omega, rfl⟩
  | 3, _ => exact ⟨0, by omega, rfl⟩
  | 4, _ => exact ⟨8, by omega, rfl⟩
 obtain ⟨a, sa⟩ := sgA nk .N (by omega) (.inl rfl) X (by omega)
 obtain ⟨d, sd⟩ := sgA nn (.D bb) (by omega) (.inr ⟨bb, rfl, lbb⟩) Y (by
  rcases hY with h | h | h | h | h
  ·exact .inl h
  ·exact .inr (.inl h)
  ·exact .inr (.inr (.inl h))
  ·exact .inr (.inr (.inr (.inl h)))
  ·exact .inr (.inr (.inr (.inr ⟨h, bb, rfl⟩))))
 have hv2 := sg_cd sa sd
 have p1 := of_call (uce 5 []) [anc 0] [a, d] 5 (uce_w 5 (by simp) (by simp; exact ⟨sa.w, sd.w⟩)) (by simp) w1 (by simp)
 rw [hv2] at p1
 have sA : PCall prog 11 [.int .i64 nk, .int .i64 (-1), .int .i64 5, .int .i64 X] (.agg [.str a.raw, .str a.tbs, nmV a.issuer, .int .i64 a.this, .int .i64 a.next, .int .i64 a.number, .int .i64 a.base, .str a.ak, .bool a.has, gnsV a.sc.names, .bool a.sc.ou, .bool a.sc.oc, .int .i64 a.sc.reasons, .bool a.sc.ind, ptsV a.fresh, ensV a.entries, .str a.sig]) := sa.call
 have sD : PCall prog 11 [.int .i64 nn, .int .i64 bb, .int .i64 5, .int .i64 Y] (.agg [.str d.raw, .str d.tbs, nmV d.issuer, .int .i64 d.this, .int .i64 d.next, .int .i64 d.number, .int .i64 d.base, .str d.ak, .bool d.has, gnsV d.sc.names, .bool d.sc.ou, .bool d.sc.oc, .int .i64 d.sc.reasons, .bool d.sc.ind, ptsV d.fresh, ensV d.entries, .str d.sig]) := sd.call
 have p1 : PCall prog 13 [.agg [.str [], .str [], .int .i64 5, nmV (authN 0), .sl 0 [], .int .i64 0, .int .i64 0, .int .i64 0, .str [], .str [], .bool false, .bool false, .int .i64 0, .int .i64 0, .sl 0 [], .sl 0 [], .sl 0 [], .int .i64 0, .int .i64 0, .int .i64 0, .sl 0 [], .bool false, .sl 0 [], .sl 0 [], .str [], .str [], .sl 0 [], .sl 0 [], .sl 0 [], .str []], .sl 1 [nmV (authN 0), .int .i64 0, .str (pubK 0).id, .str (pubK 0).root], .sl 2 [.str a.raw, .str a.tbs, nmV a.issuer, .int .i64 a.this, .int .i64 a.next, .int .i64 a.number, .int .i64 a.base, .str a.ak, .bool a.has, gnsV a.sc.names, .bool a.sc.ou, .bool a.sc.oc, .int .i64 a.sc.reasons, .bool a.sc.ind, ptsV a.fresh, ensV a.entries, .str a.sig, .str d.raw, .str d.tbs, nmV d.issuer, .int .i64 d.this, .int .i64 d.next, .int .i64 d.number, .int .i64 d.base, .str d.ak, .bool d.has, gnsV d.sc.names, .bool d.sc.ou, .bool d.sc.oc, .int .i64 d.sc.reasons, .bool d.sc.ind, ptsV d.fresh, ensV d.entries, .str d.sig], .int .i64 5] (.int .i64 (wF (if bb ≤ nk ∧ nk < nn ∧ Y ≠ -1 then Y else X))) := p1
 clear hv2 sa sd w1 hnn hnk
 generalize (pubK 0).id = ID at *
 generalize (pubK 0).root = RT at *
 refine pcall_body func5 rfl call5 ?_ ?_
 rotate_left 1
 refine awp_slots (s' := (.int .i64 x : V) :: (.int .i64 y : V) :: (.int .i64 z : V) :: (.int .i64 u : V) :: (.int .i64 v : V) :: zJ 85) rfl ?_; dsimp only [zJ]
 rotate_left 1
 ·exact .bool
 refine awp_seq fun K hK => ?_
 repeat' (first | refine Zr ?_ | refine Zt ?_ | (refine Yb rfl ?_ ?_ <;> intro hcnd <;> (try simp at hcnd) <;> try exact dc) | refine Zo ?_ | refine Zx ?_ | fail)
 refine hK _ _ ?_; clear hK K
 refine awp_seq fun K hK => ?_
 repeat' (first | refine Zr ?_ | refine Zt ?_ | (refine Yb rfl ?_ ?_ <;> intro hcnd <;> (try simp at hcnd) <;> try exact dc) | refine Zo ?_ | refine Zx ?_ | fail)
 refine hK _ _ ?_; clear hK K
 obtain ⟨L, hL⟩ : ∃ L, ([V.int .i64 (-1), .int .i64 1, .int .i64 6, .int .i64 0, .int .i64 8] : List V) = L := ⟨_, rfl⟩
 have hl5 : L.length = 5 := by subst hL; rfl
 have hX3 : L[kx]'(by omega) = .int .i64 X := by subst hL; exact hX2
 have hY3 : L[ky]'(by omega) = .int .i64 Y := by subst hL; exact hY2
 have hpL : Pures L := by subst hL; simp
 rw [hL]
 clear hX2 hY2 hL
 refine awp_seq fun K hK => ?_
 repeat' (first | ((first | refine Zu ?_ | (refine Zv ?_ ?_; (focus (simp [hl5, hX3]; done)))); intro K9 h9; simp (disch := first | exact dd | fail) [hl5, hX3]; refine Zm ?_; ((first | refine acall_gen (rows' := [[.int .i64 x]]) (news := [[.osl 0 0 1 1, .int .i64 0]]) [1] [[.int .i64 x]] [[.osl 1 0 1 1, .int .i64 0]] (newP_call x) (by simp) (by simp [rowsOver, rowRen_live]) (by simp) rfl rfl (by simp [behind]) (rc := .ref 2 0) (by simp [behind]) ?_ | refine acall_gen (rows' := [[.int .i64 x], [.osl 0 0 1 1, .int .i64 1]]) (news := []) [1, 2] [[.int .i64 x], [.osl 1 0 1 1, .int .i64 1]] [] nkx (by simp) (by simp [rowsOver, rowRen_live]) (by simp) rfl rfl (by simp [behind]) (rc := .int .i64 kx) (by simp) ?_ | skip) <;> (refine Zf h9 ?_; clear h9 K9))) | refine Zt ?_ | (refine Yb rfl ?_ ?_ <;> intro hcnd <;> (try simp at hcnd) <;> try exact dc) | (refine Zn ?_ ?_; (focus (simp [hl5, hX3]; done)); refine Zs ?_) | refine Zx ?_ | fail)
 refine hK _ _ ?_; clear hK K
 refine awp_seq fun K hK => ?_
 repeat' (first | ((first | refine Zu ?_ | (refine Zv ?_ ?_; (focus (simp [hl5, hY3]; done)))); intro K9 h9; simp (disch := first | exact dd | fail) [hl5, hY3]; refine Zm ?_; ((first | refine acall_gen (rows' := [[.int .i64 y]]) (news := [[.osl 0 0 1 1, .int .i64 0]]) [3] [[.int .i64 y]] [[.osl 3 0 1 1, .int .i64 0]] (newP_call y) (by simp) (by simp [rowsOver, rowRen_live]) (by simp) rfl rfl (by simp [behind]) (rc := .ref 4 0) (by simp [behind]) ?_ | refine acall_gen (rows' := [[.int .i64 y], [.osl 0 0 1 1, .int .i64 1]]) (news := []) [3, 4] [[.int .i64 y], [.osl 3 0 1 1, .int .i64 1]] [] nky (by simp) (by simp [rowsOver, rowRen_live]) (by simp) rfl rfl (by simp [behind]) (rc := .int .i64 ky) (by simp) ?_ | skip) <;> (refine Zf h9 ?_; clear h9 K9))) | refine Zt ?_ | (refine Yb rfl ?_ ?_ <;> intro hcnd <;> (try simp at hcnd) <;> try exact dc) | (refine Zn ?_ ?_; (focus (simp [hl5, hY3]; done)); refine Zs ?_) | refine Zx ?_ | fail)
 refine hK _ _ ?_; clear hK K
 refine awp_seq fun K hK => ?_
 repeat' (first | ((first | refine Zu ?_ | (refine Zv ?_ ?_; (focus (simp; done)))); intro K9 h9; refine Zd ?_; ((first | refine acall_gen (rows' := [[.int .i64 z]]) (news := [[.osl 0 0 1 1, .int .i64 0]]) [5] [[.int .i64 z]] [[.osl 5 0 1 1, .int .i64 0]] (newP_call z) (by simp) (by simp [rowsOver, rowRen_live]) (by simp) rfl rfl (by simp [behind]) (rc := .ref 6 0) (by simp [behind]) ?_ | refine acall_gen (rows' := [[.int .i64 z], [.osl 0 0 1 1, .int .i64 1]]) (news := []) [5, 6] [[.int .i64 z], [.osl 5 0 1 1, .int .i64 1]] [] nkn (by simp) (by simp [rowsOver, rowRen_live]) (by simp) rfl rfl (by simp [behind]) (rc := .int .i64 kn) (by simp) ?_ | skip) <;> (refine Zf h9 ?_; clear h9 K9))) | refine Zt ?_ | (refine Yb rfl ?_ ?_ <;> intro hcnd <;> (try simp at hcnd) <;> try exact dc) | refine Zo ?_ | refine Zx ?_ | fail)
 refine hK _ _ ?_; clear hK K
 simp only [e1]
 refine awp_seq fun K hK => ?_
 repeat' (first | ((first | refine Zu ?_ | (refine Zv ?_ ?_; (focus (simp; done)))); intro K9 h9; refine Zd ?_; ((first | refine acall_gen (rows' := [[.int .i64 u]]) (news := [[.osl 0 0 1 1, .int .i64 0]]) [7] [[.int .i64 u]] [[.osl 7 0 1 1, .int .i64 0]] (newP_call u) (by simp) (by simp [rowsOver, rowRen_live]) (by simp) rfl rfl (by simp [behind]) (rc := .ref 8 0) (by simp [behind]) ?_ | refine acall_gen (rows' := [[.int .i64 u], [.osl 0 0 1 1, .int .i64 1]]) (news := []) [7, 8] [[.int .i64 u], [.osl 7 0 1 1, .int .i64 1]] [] nbb (by simp) (by simp [rowsOver, rowRen_live]) (by simp) rfl rfl (by simp [behind]) (rc := .int .i64 bb) (by simp) ?_ | skip) <;> (refine Zf h9 ?_; clear h9 K9))) | refine Zt ?_ | (refine Yb rfl ?_ ?_ <;> intro hcnd <;> (try simp at hcnd) <;> try exact dc) | refine Zo ?_ | refine Zx ?_ | fail)
 refine hK _ _ ?_; clear hK K
 refine awp_seq fun K hK => ?_
 repeat' (first | ((first | refine Zu ?_ | (refine Zv ?_ ?_; (focus (simp; done)))); intro K9 h9; refine Zd ?_; ((first | refine acall_gen (rows' := [[.int .i64 v]]) (news := [[.osl 0 0 1 1, .int .i64 0]]) [9] [[.int .i64 v]] [[.osl 9 0 1 1, .int .i64 0]] (newP_call v) (by simp) (by simp [rowsOver, rowRen_live]) (by simp) rfl rfl (by simp [behind]) (rc := .ref 10 0) (by simp [behind]) ?_ | refine acall_gen (rows' := [[.int .i64 v], [.osl 0 0 1 1, .int .i64 1]]) (news := []) [9, 10] [[.int .i64 v], [.osl 9 0 1 1, .int .i64 1]] [] nkk (by simp) (by simp [rowsOver, rowRen_live]) (by simp) rfl rfl (by simp [behind]) (rc := .int .i64 kk) (by simp) ?_ | skip) <;> (refine Zf h9 ?_; clear h9 K9))) | refine Zt ?_ | (refine Yb rfl ?_ ?_ <;> intro hcnd <;> (try simp at hcnd) <;> try exact dc) | refine Zo ?_ | refine Zx ?_ | fail)
 refine hK _ _ ?_; clear hK K
 simp only [e2]
 refine awp_seq fun K hK => ?_
 repeat' (first | ((first | refine Zu ?_ | (refine Zv ?_ ?_; (focus (simp; done)))); intro K9 h9; refine Zd ?_; ((first | refine Ap an ?_ | skip) <;> (refine Zf h9 ?_; clear h9 K9))) | refine Zt ?_ | (refine Yb rfl ?_ ?_ <;> intro hcnd <;> (try simp at hcnd) <;> try exact dc) | refine Zo ?_ | refine Zx ?_ | fail)
 refine hK _ _ ?_; clear hK K
 refine awp_freeze' 11 rfl (by simp) (by simp [fz_pure, fz_own, fz_osln, fz_refn]; rfl) (by simp [fzRow, fz_pure, fz_own, fz_osln, fz_refn, fz_map hpL]; rfl) ?_
 refine awp_seq fun K hK => ?_
 repeat' (first | ((first | refine Zu ?_ | (refine Zv ?_ ?_; (focus (simp; done)))); intro K9 h9; refine Zd ?_; ((first | refine Ap sA ?_ | refine Ap sD ?_ | skip) <;> (refine Zf h9 ?_; clear h9 K9))) | refine Zt ?_ | (refine Yb rfl ?_ ?_ <;> intro hcnd <;> (try simp at hcnd) <;> try exact dc) | refine Zo ?_ | refine Zx ?_ | fail)
 refine hK _ _ ?_; clear hK K
 refine awp_seq fun K hK => ?_
 repeat' (first | refine Zr ?_ | refine Zt ?_ | (refine Yb rfl ?_ ?_ <;> intro hcnd <;> (try simp at hcnd) <;> try exact dc) | refine Zo ?_ | refine Zx ?_ | fail)
 refine hK _ _ ?_; clear hK K
 by_cases q1 : bb ≤ nk
 ·have r1 : (bb : Int) ≤ nk := by omega
  by_cases q2 : nk < nn
  ·have r2 : (nk : Int) < nn := by omega
   by_cases q3 : Y = -1
   ·subst q3
    rw [if_neg (by simp)] at p1
    rcases hX with rfl | rfl | rfl | rfl
    ·rw [show wF (-1) = 1 by decide] at p1
     repeat' (first | ((first | refine ZuU ?_ | (refine ZvU ?_ ?_; (focus (simp [q1, r1, q2, r2]; done)))); intro K9 h9; simp (disch := first | exact dd | fail) [q1, r1, q2, r2]; refine Zm ?_; ((first | refine Ap u5 ?_ | refine Ap aw ?_ | refine acall_view p1 ⟨.pure (by simp), .pure .sl, view_row rfl (by simp) (by simp), .pure .int, trivial⟩ .int ?_ | skip) <;> (refine ZfU h9 ?_; clear h9 K9))) | refine ZtU ?_ | refine Y8 fun K hK => ?_ | (apply hK; clear hK K) | (refine Yb rfl ?_ ?_ <;> intro hcnd <;> (try simp at hcnd) <;> try exact dc) | (refine ZnU ?_ ?_; (focus (simp [q1, r1, q2, r2]; done)); refine ZsU ?_) | refine Zx ?_ | clear hK K)
     simp
     exact .pure .bool
    ·rw [show wF (1) = 2 by decide] at p1
     repeat' (first | ((first | refine ZuU ?_ | (refine ZvU ?_ ?_; (focus (simp [q1, r1, q2, r2]; done)))); intro K9 h9; simp (disch := first | exact dd | fail) [q1, r1, q2, r2]; refine Zm ?_; ((first | refine Ap u5 ?_ | refine Ap aw ?_ | refine acall_view p1 ⟨.pure (by simp), .pure .sl, view_row rfl (by simp) (by simp), .pure .int, trivial⟩ .int ?_ | skip) <;> (refine ZfU h9 ?_; clear h9 K9))) | refine ZtU ?_ | refine Y8 fun K hK => ?_ | (apply hK; clear hK K) | (refine Yb rfl ?_ ?_ <;> intro hcnd <;> (try simp at hcnd) <;> try exact dc) | (refine ZnU ?_ ?_; (focus (simp [q1, r1, q2, r2]; done)); refine ZsU ?_) | refine Zx ?_ | clear hK K)
     simp
     exact .pure .bool
    ·rw [show wF (6) = 3 by decide] at p1
     repeat' (first | ((first | refine ZuU ?_ | (refine ZvU ?_ ?_; (focus (simp [q1, r1, q2, r2]; done)))); intro K9 h9; simp (disch := first | exact dd | fail) [q1, r1, q2, r2]; refine Zm ?_; ((first | refine Ap u5 ?_ | refine Ap aw ?_ | refine acall_view p1 ⟨.pure (by simp), .pure .sl, view_row rfl (by simp) (by simp), .pure .int, trivial⟩ .int ?_ | skip) <;> (refine ZfU h9 ?_; clear h9 K9))) | refine ZtU ?_ | refine Y8 fun K hK => ?_ | (apply hK; clear hK K) | (refine Yb rfl ?_ ?_ <;> intro hcnd <;> (try simp at hcnd) <;> try exact dc) | (refine ZnU ?_ ?_; (focus (simp [q1, r1, q2, r2]; done)); refine ZsU ?_) | refine Zx ?_ | clear hK K)
     simp
     exact .pure .bool
    ·rw [show wF (0) = 2 by decide] at p1
     repeat' (first | ((first | refine ZuU ?_ | (refine ZvU ?_ ?_; (focus (simp [q1, r1, q2, r2]; done)))); intro K9 h9; simp (disch := first | exact dd | fail) [q1, r1, q2, r2]; refine Zm ?_; ((first | refine Ap u5 ?_ | refine Ap aw ?_ | refine acall_view p1 ⟨.pure (by simp), .pure .sl, view_row rfl (by simp) (by simp), .pure .int, trivial⟩ .int ?_ | skip) <;> (refine ZfU h9 ?_; clear h9 K9))) | refine ZtU ?_ | refine Y8 fun K hK => ?_ | (apply hK; clear hK K) | (refine Yb rfl ?_ ?_ <;> intro hcnd <;> (try simp at hcnd) <;> try exact dc) | (refine ZnU ?_ ?_; (focus (simp [q1, r1, q2, r2]; done)); refine ZsU ?_) | refine Zx ?_ | clear hK K)
     simp
     exact .pure .bool
   ·rw [if_pos ⟨q1, q2, q3⟩] at p1
    have hY : Y = 1 ∨ Y = 6 ∨ Y = 0 ∨ Y = 8 := by omega
    clear q3
    rcases hY with rfl | rfl | rfl | rfl
    ·rw [show wF (1) = 2 by decide] at p1
     repeat' (first | ((first | refine ZuU ?_ | (refine ZvU ?_ ?_; (focus (simp [q1, r1, q2, r2]; done)))); intro K9 h9; simp (disch := first | exact dd | fail) [q1, r1, q2, r2]; refine Zm ?_; ((first | refine Ap u5 ?_ | refine Ap aw ?_ | refine acall_view p1 ⟨.pure (by simp), .pure .sl, view_row rfl (by simp) (by simp), .pure .int, trivial⟩ .int ?_ | skip) <;> (refine ZfU h9 ?_; clear h9 K9))) | refine ZtU ?_ | refine Y8 fun K hK => ?_ | (apply hK; clear hK K) | (refine Yb rfl ?_ ?_ <;> intro hcnd <;> (try simp at hcnd) <;> try exact dc) | (refine ZnU ?_ ?_; (focus (simp [q1, r1, q2, r2]; done)); refine ZsU ?_) | refine Zx ?_ | clear hK K)
     simp
     exact .pure .bool
    ·rw [show wF (6) = 3 by decide] at p1
     repeat' (first | ((first | refine ZuU ?_ | (refine ZvU ?_ ?_; (focus (simp [q1, r1, q2, r2]; done)))); intro K9 h9; simp (disch := first | exact dd | fail) [q1, r1, q2, r2]; refine Zm ?_; ((first | refine Ap u5 ?_ | refine Ap aw ?_ | refine acall_view p1 ⟨.pure (by simp), .pure .sl, view_row rfl (by simp) (by simp), .pure .int, trivial⟩ .int ?_ | skip) <;> (refine ZfU h9 ?_; clear h9 K9))) | refine ZtU ?_ | refine Y8 fun K hK => ?_ | (apply hK; clear hK K) | (refine Yb rfl ?_ ?_ <;> intro hcnd <;> (try simp at hcnd) <;> try exact dc) | (refine ZnU ?_ ?_; (focus (simp [q1, r1, q2, r2]; done)); refine ZsU ?_) | refine Zx ?_ | clear hK K)
     simp
     exact .pure .bool
    ·rw [show wF (0) = 2 by decide] at p1
     repeat' (first | ((first | refine ZuU ?_ | (refine ZvU ?_ ?_; (focus (simp [q1, r1, q2, r2]; done)))); intro K9 h9; simp (disch := first | exact dd | fail) [q1, r1, q2, r2]; refine Zm ?_; ((first | refine Ap u5 ?_ | refine Ap aw ?_ | refine acall_view p1 ⟨.pure (by simp), .pure .sl, view_row rfl (by simp) (by simp), .pure .int, trivial⟩ .int ?_ | skip) <;> (refine ZfU h9 ?_; clear h9 K9))) | refine ZtU ?_ | refine Y8 fun K hK => ?_ | (apply hK; clear hK K) | (refine Yb rfl ?_ ?_ <;> intro hcnd <;> (try simp at hcnd) <;> try exact dc) | (refine ZnU ?_ ?_; (focus (simp [q1, r1, q2, r2]; done)); refine ZsU ?_) | refine Zx ?_ | clear hK K)
     simp
     exact .pure .bool
    ·rw [show wF (8) = 1 by decide] at p1
     repeat' (first | ((first | refine ZuU ?_ | (refine ZvU ?_ ?_; (focus (simp [q1, r1, q2, r2]; done)))); intro K9 h9; simp (disch := first | exact dd | fail) [q1, r1, q2, r2]; refine Zm ?_; ((first | refine Ap u5 ?_ | refine Ap aw ?_ | refine acall_view p1 ⟨.pure (by simp), .pure .sl, view_row rfl (by simp) (by simp), .pure .int, trivial⟩ .int ?_ | skip) <;> (refine ZfU h9 ?_; clear h9 K9))) | refine ZtU ?_ | refine Y8 fun K hK => ?_ | (apply hK; clear hK K) | (refine Yb rfl ?_ ?_ <;> intro hcnd <;> (try simp at hcnd) <;> try exact dc) | (refine ZnU ?_ ?_; (focus (simp [q1, r1, q2, r2]; done)); refine ZsU ?_) | refine Zx ?_ | clear hK K)
     simp
     exact .pure .bool
  ·have r2 : ¬ (nk : Int) < nn := by omega
   rw [if_neg (fun h => q2 h.2.1)] at p1
   rcases hX with rfl | rfl | rfl | rfl
   ·rw [show wF (-1) = 1 by decide] at p1
    repeat' (first | ((first | refine ZuU ?_ | (refine ZvU ?_ ?_; (focus (simp [q1, r1, q2, r2]; done)))); intro K9 h9; simp (disch := first | exact dd | fail) [q1, r1, q2, r2]; refine Zm ?_; ((first | refine Ap u5 ?_ | refine Ap aw ?_ | refine acall_view p1 ⟨.pure (by simp), .pure .sl, view_row rfl (by simp) (by simp), .pure .int, trivial⟩ .int ?_ | skip) <;> (refine ZfU h9 ?_; clear h9 K9))) | refine ZtU ?_ | refine Y8 fun K hK => ?_ | (apply hK; clear hK K) | (refine Yb rfl ?_ ?_ <;> intro hcnd <;> (try simp at hcnd) <;> try exact dc) | (refine ZnU ?_ ?_; (focus (simp [q1, r1, q2, r2]; done)); refine ZsU ?_) | refine Zx ?_ | clear hK K)
    simp
    exact .pure .bool
   ·rw [show wF (1) = 2 by decide] at p1
    repeat' (first | ((first | refine ZuU ?_ | (refine ZvU ?_ ?_; (focus (simp [q1, r1, q2, r2]; done)))); intro K9 h9; simp (disch := first | exact dd | fail) [q1, r1, q2, r2]; refine Zm ?_; ((first | refine Ap u5 ?_ | refine Ap aw ?_ | refine acall_view p1 ⟨.pure (by simp), .pure .sl, view_row rfl (by simp) (by simp), .pure .int, trivial⟩ .int ?_ | skip) <;> (refine ZfU h9 ?_; clear h9 K9))) | refine ZtU ?_ | refine Y8 fun K hK => ?_ | (apply hK; clear hK K) | (refine Yb rfl ?_ ?_ <;> intro hcnd <;> (try simp at hcnd) <;> try exact dc) | (refine ZnU ?_ ?_; (focus (simp [q1, r1, q2, r2]; done)); refine ZsU ?_) | refine Zx ?_ | clear hK K)
    simp
    exact .pure .bool
   ·rw [show wF (6) = 3 by decide] at p1
    repeat' (first | ((first | refine ZuU ?_ | (refine ZvU ?_ ?_; (focus (simp [q1, r1, q2, r2]; done)))); intro K9 h9; simp (disch := first | exact dd | fail) [q1, r1, q2, r2]; refine Zm ?_; ((first | refine Ap u5 ?_ | refine Ap aw ?_ | refine acall_view p1 ⟨.pure (by simp), .pure .sl, view_row rfl (by simp) (by simp), .pure .int, trivial⟩ .int ?_ | skip) <;> (refine ZfU h9 ?_; clear h9 K9))) | refine ZtU ?_ | refine Y8 fun K hK => ?_ | (apply hK; clear hK K) | (refine Yb rfl ?_ ?_ <;> intro hcnd <;> (try simp at hcnd) <;> try exact dc) | (refine ZnU ?_ ?_; (focus (simp [q1, r1, q2, r2]; done)); refine ZsU ?_) | refine Zx ?_ | clear hK K)
    simp
    exact .pure .bool
   ·rw [show wF (0) = 2 by decide] at p1
    repeat' (first | ((first | refine ZuU ?_ | (refine ZvU ?_ ?_; (focus (simp [q1, r1, q2, r2]; done)))); intro K9 h9; simp (disch := first | exact dd | fail) [q1, r1, q2, r2]; refine Zm ?_; ((first | refine Ap u5 ?_ | refine Ap aw ?_ | refine acall_view p1 ⟨.pure (by simp), .pure .sl, view_row rfl (by simp) (by simp), .pure .int, trivial⟩ .int ?_ | skip) <;> (refine ZfU h9 ?_; clear h9 K9))) | refine ZtU ?_ | refine Y8 fun K hK => ?_ | (apply hK; clear hK K) | (refine Yb rfl ?_ ?_ <;> intro hcnd <;> (try simp at hcnd) <;> try exact dc) | (refine ZnU ?_ ?_; (focus (simp [q1, r1, q2, r2]; done)); refine ZsU ?_) | refine Zx ?_ | clear hK K)
    simp
    exact .pure .bool
 ·have r1 : ¬ (bb : Int) ≤ nk := by omega
  rw [if_neg (fun h => q1 h.1)] at p1
  rcases hX with rfl | rfl | rfl | rfl
  ·rw [show wF (-1) = 1 by decide] at p1
   repeat' (first | ((first | refine ZuU ?_ | (refine ZvU ?_ ?_; (focus (simp [q1, r1]; done)))); intro K9 h9; simp (disch := first | exact dd | fail) [q1, r1]; refine Zm ?_; ((first | refine Ap u5 ?_ | refine Ap aw ?_ | refine acall_view p1 ⟨.pure (by simp), .pure .sl, view_row rfl (by simp) (by simp), .pure .int, trivial⟩ .int ?_ | skip) <;> (refine ZfU h9 ?_; clear h9 K9))) | refine ZtU ?_ | refine Y8 fun K hK => ?_ | (apply hK; clear hK K) | (refine Yb rfl ?_ ?_ <;> intro hcnd <;> (try simp at hcnd) <;> try exact dc) | (refine ZnU ?_ ?_; (focus (simp [q1, r1]; done)); refine ZsU ?_) | refine Zx ?_ | clear hK K)
   simp
   exact .pure .bool
  ·rw [show wF (1) = 2 by decide] at p1
   repeat' (first | ((first | refine ZuU ?_ | (refine ZvU ?_ ?_; (focus (simp [q1, r1]; done)))); intro K9 h9; simp (disch := first | exact dd | fail) [q1, r1]; refine Zm ?_; ((first | refine Ap u5 ?_ | refine Ap aw ?_ | refine acall_view p1 ⟨.pure (by simp), .pure .sl, view_row rfl (by simp) (by simp), .pure .int, trivial⟩ .int ?_ | skip) <;> (refine ZfU h9 ?_; clear h9 K9))) | refine ZtU ?_ | refine Y8 fun K hK => ?_ | (apply hK; clear hK K) | (refine Yb rfl ?_ ?_ <;> intro hcnd <;> (try simp at hcnd) <;> try exact dc) | (refine ZnU ?_ ?_; (focus (simp [q1, r1]; done)); refine ZsU ?_) | refine Zx ?_ | clear hK K)
   simp
   exact .pure .bool
  ·rw [show wF (6) = 3 by decide] at p1
   repeat' (first | ((first | refine ZuU ?_ | (refine ZvU ?_ ?_; (focus (simp [q1, r1]; done)))); intro K9 h9; simp (disch := first | exact dd | fail) [q1, r1]; refine Zm ?_; ((first | refine Ap u5 ?_ | refine Ap aw ?_ | refine acall_view p1 ⟨.pure (by simp), .pure .sl, view_row rfl (by simp) (by simp), .pure .int, trivial⟩ .int ?_ | skip) <;> (refine ZfU h9 ?_; clear h9 K9))) | refine ZtU ?_ | refine Y8 fun K hK => ?_ | (apply hK; clear hK K) | (refine Yb rfl ?_ ?_ <;> intro hcnd <;> (try simp at hcnd) <;> try exact dc) | (refine ZnU ?_ ?_; (focus (simp [q1, r1]; done)); refine ZsU ?_) | refine Zx ?_ | clear hK K)
   simp
   exact .pure .bool
  ·rw [show wF (0) = 2 by decide] at p1
   repeat' (first | ((first | refine ZuU ?_ | (refine ZvU ?_ ?_; (focus (simp [q1, r1]; done)))); intro K9 h9; simp (disch := first | exact dd | fail) [q1, r1]; refine Zm ?_; ((first | refine Ap u5 ?_ | refine Ap aw ?_ | refine acall_view p1 ⟨.pure (by simp), .pure .sl, view_row rfl (by simp) (by simp), .pure .int, trivial⟩ .int ?_ | skip) <;> (refine ZfU h9 ?_; clear h9 K9))) | refine ZtU ?_ | refine Y8 fun K hK => ?_ | (apply hK; clear hK K) | (refine Yb rfl ?_ ?_ <;> intro hcnd <;> (try simp at hcnd) <;> try exact dc) | (refine ZnU ?_ ?_; (focus (simp [q1, r1]; done)); refine ZsU ?_) | refine Zx ?_ | clear hK K)
   simp
   exact .pure .bool
theorem deltas_fits : ∀ xs, FitsAll prog 8 Tryz.f5.params.toList xs → PCall prog 5 xs (.bool true) := by
 intro xs h
 rw [show Tryz.f5.params.toList = [3, 3, 3, 3, 3] by kernel_rfl] at h
 obtain ⟨x1, xs, rfl, h1, h⟩ := fitsAll_cons h
 obtain ⟨x2, xs, rfl, h2, h⟩ := fitsAll_cons h
 obtain ⟨x3, xs, rfl, h3, h⟩ := fitsAll_cons h
 obtain ⟨x4, xs, rfl, h4, h⟩ := fitsAll_cons h
 obtain ⟨x5, xs, rfl, h5, h⟩ := fitsAll_cons h
 obtain rfl := fitsAll_nil h
 obtain ⟨a, ha, rfl⟩ := fits_int (by kernel_rfl) h1
 obtain ⟨b, hb, rfl⟩ := fits_int (by kernel_rfl) h2
 obtain ⟨c, hc, rfl⟩ := fits_int (by kernel_rfl) h3
 obtain ⟨d, hd, rfl⟩ := fits_int (by kernel_rfl) h4
 obtain ⟨e, he, rfl⟩ := fits_int (by kernel_rfl) h5
 exact deltas_call a b c d e ha hb hc hd he
end Go.Proofs.YtnpndfmbkmbhbaaGreatDoor

