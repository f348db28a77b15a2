/-
 STATUS: StatusIndirect.
 Conditions: none.
-/
import Derived.Test.YtnpndfmbkmbhbaaGreatDoorE19
import Derived.Test.YtnpndfmbkmbhbaaGreatDoorVs43
set_option maxRecDepth 100000
set_option maxHeartbeats 32000000
set_option linter.all false
namespace Go.Sta
open Go.VS Go.Stp Go.Der Go.Proofs.YtnpndfmbkmbhbaaGreatDoor
theorem of_no {c : Ce} {ss : List An} {a : Li} {t : Int} (h : sgdB a ss = false ∨ maskS c a = 0) : ofB c ss [a] t = 0 := by
 have hc : cmpB c ss [a] 0 = false := by
  unfold cmpB
  rw [gi0]
  rcases h with h | h <;> simp [h]
 have he : evid c ss [a] t = [] := by
  have : prfs c ss [a] t 1 = [] := by simp [prfs, rg1, prfI, hc]
  unfold evid
  rw [show [a].length = 1 from rfl, this]
  rfl
 rw [ofB, he]
 simp [ofF, ofE, and0]
theorem indS (m : Ml) (hv : m.v = authV 2) : sg1 (m.done 1) (anc 0) = false ∧ sg1 (m.done 1) (anc 1) = true := by
 refine ⟨?_, done_sg1 m 1 (by rw [hv]; exact n22)⟩
 have hn : nameB (anc 0).n (m.done 1).issuer = false := by
  show nameB (authN 0) (nm1 m.v) = false
  rw [hv]; exact n02
 simp [sg1, hn]
theorem indM (m : Ml) (hv : m.v = authV 2) (named : Bool) : maskS (uce 5 (if named = true then [⟨[], 0, true, authN 2⟩] else [])) (m.done 1) = if named = true ∧ m.kd.has = true ∧ m.kd.ind = true ∧ m.kd.rea = 0 then 510 else if named = true ∧ m.kd.has = true ∧ m.kd.ind = true then maskS (uce 5 (if named = true then [⟨[], 0, true, authN 2⟩] else [])) (m.done 1) else 0 := by
 have h1 : nameB (m.done 1).issuer (authN 0) = false := by
  show nameB (nm1 m.v) (authN 0) = false
  rw [hv]; exact n20
 have h2 : nameB (m.done 1).issuer (authN 2) = true := by
  show nameB (nm1 m.v) (authN 2) = true
  rw [hv]; exact n22
 cases named
 ·have hc : (coversS (uce 5 []) pt0 (m.done 1)).1 = 0 := by
   unfold coversS
   rw [show (uce 5 []).issuer = authN 0 from rfl, h1]
   simp [pt0]
  simp only [Bool.false_eq_true, if_false, false_and]
  show bits .or .i64 0 (coversS (uce 5 []) pt0 (m.done 1)).1 = 0
  rw [hc]
  decide
 ·simp only [if_true, true_and]
  by_cases hh : m.kd.has = true ∧ m.kd.ind = true
  ·by_cases hr : m.kd.rea = 0
   ·rw [if_pos ⟨hh.1, hh.2, hr⟩]
    have e1 : (m.done 1).has = true := hh.1
    have e2 : (m.done 1).sc = ⟨[], false, false, 0, true⟩ := by
     show (⟨[], false, false, m.kd.rea, m.kd.ind⟩ : Sc) = _
     rw [hr, hh.2]
    have hc : (coversS (uce 5 [⟨[], 0, true, authN 2⟩]) ⟨[], 0, true, authN 2⟩ (m.done 1)).1 = 510 := by
     unfold coversS
     rw [show (uce 5 [⟨[], 0, true, authN 2⟩]).issuer = authN 0 from rfl, h1, h2, e1, e2]
     simp [coverM, allM, e1, e2]
     decide
    show bits .or .i64 0 (coversS (uce 5 [⟨[], 0, true, authN 2⟩]) ⟨[], 0, true, authN 2⟩ (m.done 1)).1 = 510
    rw [hc]
    exact or0_510
   ·rw [if_neg (fun h => hr h.2.2), if_pos hh]
  ·rw [if_neg (fun h => hh ⟨h.1, h.2.1⟩), if_neg hh]
   have hc : (coversS (uce 5 [⟨[], 0, true, authN 2⟩]) ⟨[], 0, true, authN 2⟩ (m.done 1)).1 = 0 := by
    unfold coversS
    rw [show (uce 5 [⟨[], 0, true, authN 2⟩]).issuer = authN 0 from rfl, h1, h2, if_neg (by simp), if_pos]
    refine ⟨rfl, ?_⟩
    show ¬ (m.kd.has = true ∧ m.kd.ind = true)
    exact hh
   show bits .or .i64 0 (coversS (uce 5 [⟨[], 0, true, authN 2⟩]) ⟨[], 0, true, authN 2⟩ (m.done 1)).1 = 0
   rw [hc]
   decide
end Go.Sta
namespace Go.Proofs.YtnpndfmbkmbhbaaGreatDoor
open Go.Proofs.Tryz
open Go.VS Go.Stp Go.Der Go.Sta
attribute [local irreducible] arun arunD arunU AWp aend verE wr DU.arunD
attribute [local simp] DU.gval
def eC (s r : Int) : V := .sl 1 [.int .i64 s, .int .i64 0, .int .i64 r, .int .i64 (-1), nmV (authN 0)]
def uC (p : V) : List V := [.str [], .str [], .int .i64 5, nmV (authN 0), .sl 0 [], .int .i64 0, .int .i64 0, .int .i64 0, .str [], .str [], .bool false, .bool false, .int .i64 0, .int .i64 0, .sl 0 [], .sl 0 [], .sl 0 [], .int .i64 0, .int .i64 0, .int .i64 0, .sl 0 [], .bool false, .sl 0 [], .sl 0 [], .str [], .str [], p, .sl 0 [], .sl 0 [], .str []]
def lC (raw tbs : List UInt8) (I : V) (a b n c : Int) (has : Bool) (rea : Int) (ind : Bool) (En : V) (sg : List UInt8) (z : V) : List V := [.str raw, .str tbs, I, .int .i64 a, .int .i64 b, .int .i64 n, .int .i64 c, .str [], .bool has, z, .bool false, .bool false, .int .i64 rea, .bool ind, z, En, .str sg]
abbrev iN : Ml := ⟨authV 2, 1, 9, 1, .N, none⟩
abbrev iI : Ml := ⟨authV 2, 1, 9, 1, .I, none⟩
abbrev iE : Ml := ⟨authV 2, 1, 9, 1, .I, some (5, 1, authV 0)⟩
structure InF (pts an : V) (has : Bool) (e0 e1 : V) (want : Int) (Y : V) (i r j q w t g : List UInt8) : Prop where
 aw : PCall prog 16 [] (.bool true)
 u5 : PCall prog 14 [.int .i64 5] (.agg (uC (.sl 0 [])))
 an0 : PCall prog 12 [.int .i64 0] (.agg [nmV (authN 0), .int .i64 0, .str i, .str r])
 an1 : PCall prog 12 [.int .i64 1] (.agg [nmV (authN 2), .int .i64 0, .str j, .str q])
 a0 : PCall prog 17 [.int .i64 0] (.agg [nmV (authN 0)])
 a2 : PCall prog 17 [.int .i64 2] (.agg [nmV (authN 2)])
 k0 : PCall prog 19 [.int .i64 1] (Y)
 hKy : Y.Pure
 sg : PCall prog 18 [.agg (lC [] [] (nmV (authN 2)) 1 9 1 (-1) has 0 has e0 [] .nils), Y, .int .i64 0] (.agg (lC w t (nmV (authN 2)) 1 9 1 (-1) has 0 has e1 g (.sl 0 [])))
 p : PCall prog 13 [.agg (uC pts), an, .sl 1 (lC w t (nmV (authN 2)) 1 9 1 (-1) has 0 has e1 g (.sl 0 [])), .int .i64 5] (.int .i64 want)
theorem kN : MlOk iN := mk_ok vok2 1 9 1 .N (by omega) (by omega) (by omega) (fun b h => by cases h) (fun r h => by cases h)
theorem kI : MlOk iI := mk_ok vok2 1 9 1 .I (by omega) (by omega) (by omega) (fun b h => by cases h) (fun r h => by cases h)
theorem kE : MlOk iE := mk_okE vok2 1 9 1 .I 5 1 (authV 0) (by omega) (by omega) (by omega) (fun b h => by cases h) (fun r h => by cases h) ⟨by omega, by omega, by omega, vok0, fun h => absurd h (by omega), .inr ⟨by decide, n02, rfl, by omega⟩⟩
theorem hKy1 : (rtV (mseedS (1000 + ((1 : Nat) : Int))) 0).Pure := by unfold rtV; simp
theorem wA0 : ∀ s ∈ [anc 0], WAn s := fun s hs => by simp at hs; subst hs; exact anc_w 0
theorem wA1 : ∀ s ∈ [anc 0, anc 1], WAn s := fun s hs => by simp at hs; rcases hs with rfl | rfl; exact anc_w 0; exact anc_w 1
theorem wW0 {m : Ml} (k : MlOk m) : WWo (uce 5 []) [m.done 1] := ⟨authN_w 0, by simp [uce], by simp [uce], by simp, by simp; exact done_wst k 1⟩
theorem wW1 {m : Ml} (k : MlOk m) : WWo (uce 5 [(⟨[], 0, true, authN 2⟩ : Pt)]) [m.done 1] := ⟨authN_w 0, by simp [uce], fun p hp => by simp [uce] at hp; subst hp; exact ⟨fun x hx => by simp at hx, by simp, authN_w 2⟩, by simp, by simp; exact done_wst k 1⟩
theorem mkI {pts : V} {an : List UInt8 → List UInt8 → List UInt8 → List UInt8 → V} {has : Bool} {e0 e1 : V} {want : Int} {w t g : List UInt8} (sg : PCall prog 18 [.agg (lC [] [] (nmV (authN 2)) 1 9 1 (-1) has 0 has e0 [] .nils), rtV (mseedS (1000 + ((1 : Nat) : Int))) 0, .int .i64 0] (.agg (lC w t (nmV (authN 2)) 1 9 1 (-1) has 0 has e1 g (.sl 0 [])))) (p : PCall prog 13 [.agg (uC pts), an (pubK 0).id (pubK 0).root (pubK 1).id (pubK 1).root, .sl 1 (lC w t (nmV (authN 2)) 1 9 1 (-1) has 0 has e1 g (.sl 0 [])), .int .i64 5] (.int .i64 want)) : ∃ Y i r j q w t g, InF pts (an i r j q) has e0 e1 want Y i r j q w t g :=
 ⟨_, _, _, _, _, w, t, g, awake28_call, user_call 5, anchor_call 0 (by omega), anchor_call 1 (by omega), auth_call 0 (by omega), auth_call 2 (by omega), ekey_call 1 (by omega), hKy1, sg, p⟩
theorem in0N0 : ∃ Y i r j q w t g, InF (.sl 0 []) (.sl 1 [nmV (authN 0), .int .i64 0, .str i, .str r]) false .nils (.sl 0 []) 0 Y i r j q w t g := by
 have h := of_call (uce 5 []) [anc 0] [iN.done 1] 5 (wW0 kN) (by simp) wA0 (by simp)
 rw [of_no (c := uce 5 []) (ss := [anc 0]) (t := 5) (a := iN.done 1) (.inl (by simp [sgdB, (indS iN rfl).1]))] at h
 exact mkI (ml_sign _ kN 1) (h)
theorem in0N1 : ∃ Y i r j q w t g, InF (.sl 0 []) (.sl 2 [nmV (authN 0), .int .i64 0, .str i, .str r, nmV (authN 2), .int .i64 0, .str j, .str q]) false .nils (.sl 0 []) 0 Y i r j q w t g := by
 have h := of_call (uce 5 []) [anc 0, anc 1] [iN.done 1] 5 (wW0 kN) (by simp) wA1 (by simp)
 rw [of_no (c := uce 5 []) (ss := [anc 0, anc 1]) (t := 5) (a := iN.done 1) (.inr ((indM iN rfl false).trans ((if_neg (by simp)).trans (if_neg (by simp)))))] at h
 exact mkI (ml_sign _ kN 1) (h)
theorem in0I0 : ∃ Y i r j q w t g, InF (.sl 0 []) (.sl 1 [nmV (authN 0), .int .i64 0, .str i, .str r]) true .nils (.sl 0 []) 0 Y i r j q w t g := by
 have h := of_call (uce 5 []) [anc 0] [iI.done 1] 5 (wW0 kI) (by simp) wA0 (by simp)
 rw [of_no (c := uce 5 []) (ss := [anc 0]) (t := 5) (a := iI.done 1) (.inl (by simp [sgdB, (indS iI rfl).1]))] at h
 exact mkI (ml_sign _ kI 1) (h)
theorem in0I1 : ∃ Y i r j q w t g, InF (.sl 0 []) (.sl 2 [nmV (authN 0), .int .i64 0, .str i, .str r, nmV (authN 2), .int .i64 0, .str j, .str q]) true .nils (.sl 0 []) 0 Y i r j q w t g := by
 have h := of_call (uce 5 []) [anc 0, anc 1] [iI.done 1] 5 (wW0 kI) (by simp) wA1 (by simp)
 rw [of_no (c := uce 5 []) (ss := [anc 0, anc 1]) (t := 5) (a := iI.done 1) (.inr ((indM iI rfl false).trans ((if_neg (by simp)).trans (if_neg (by simp)))))] at h
 exact mkI (ml_sign _ kI 1) (h)
theorem in0E0 : ∃ Y i r j q w t g, InF (.sl 0 []) (.sl 1 [nmV (authN 0), .int .i64 0, .str i, .str r]) true (eC 5 1) (eC 5 1) 0 Y i r j q w t g := by
 have h := of_call (uce 5 []) [anc 0] [iE.done 1] 5 (wW0 kE) (by simp) wA0 (by simp)
 rw [of_no (c := uce 5 []) (ss := [anc 0]) (t := 5) (a := iE.done 1) (.inl (by simp [sgdB, (indS iE rfl).1]))] at h
 exact mkI (ml_sign _ kE 1) (h)
theorem in0E1 : ∃ Y i r j q w t g, InF (.sl 0 []) (.sl 2 [nmV (authN 0), .int .i64 0, .str i, .str r, nmV (authN 2), .int .i64 0, .str j, .str q]) true (eC 5 1) (eC 5 1) 0 Y i r j q w t g := by
 have h := of_call (uce 5 []) [anc 0, anc 1] [iE.done 1] 5 (wW0 kE) (by simp) wA1 (by simp)
 rw [of_no (c := uce 5 []) (ss := [anc 0, anc 1]) (t := 5) (a := iE.done 1) (.inr ((indM iE rfl false).trans ((if_neg (by simp)).trans (if_neg (by simp)))))] at h
 exact mkI (ml_sign _ kE 1) (h)
theorem in1N0 : ∃ Y i r j q w t g, InF (.sl 1 [.nils, .int .i64 0, .bool true, nmV (authN 2)]) (.sl 1 [nmV (authN 0), .int .i64 0, .str i, .str r]) false .nils (.sl 0 []) 0 Y i r j q w t g := by
 have h := of_call (uce 5 [(⟨[], 0, true, authN 2⟩ : Pt)]) [anc 0] [iN.done 1] 5 (wW1 kN) (by simp) wA0 (by simp)
 rw [of_no (c := uce 5 [(⟨[], 0, true, authN 2⟩ : Pt)]) (ss := [anc 0]) (t := 5) (a := iN.done 1) (.inl (by simp [sgdB, (indS iN rfl).1]))] at h
 exact mkI (ml_sign _ kN 1) (pcall_nza1 h rfl)
theorem in1N1 : ∃ Y i r j q w t g, InF (.sl 1 [.nils, .int .i64 0, .bool true, nmV (authN 2)]) (.sl 2 [nmV (authN 0), .int .i64 0, .str i, .str r, nmV (authN 2), .int .i64 0, .str j, .str q]) false .nils (.sl 0 []) 0 Y i r j q w t g := by
 have h := of_call (uce 5 [(⟨[], 0, true, authN 2⟩ : Pt)]) [anc 0, anc 1] [iN.done 1] 5 (wW1 kN) (by simp) wA1 (by simp)
 rw [of_no (c := uce 5 [(⟨[], 0, true, authN 2⟩ : Pt)]) (ss := [anc 0, anc 1]) (t := 5) (a := iN.done 1) (.inr ((indM iN rfl true).trans ((if_neg (by simp [Kd.has])).trans (if_neg (by simp [Kd.has])))))] at h
 exact mkI (ml_sign _ kN 1) (pcall_nza1 h rfl)
theorem in1I0 : ∃ Y i r j q w t g, InF (.sl 1 [.nils, .int .i64 0, .bool true, nmV (authN 2)]) (.sl 1 [nmV (authN 0), .int .i64 0, .str i, .str r]) true .nils (.sl 0 []) 0 Y i r j q w t g := by
 have h := of_call (uce 5 [(⟨[], 0, true, authN 2⟩ : Pt)]) [anc 0] [iI.done 1] 5 (wW1 kI) (by simp) wA0 (by simp)
 rw [of_no (c := uce 5 [(⟨[], 0, true, authN 2⟩ : Pt)]) (ss := [anc 0]) (t := 5) (a := iI.done 1) (.inl (by simp [sgdB, (indS iI rfl).1]))] at h
 exact mkI (ml_sign _ kI 1) (pcall_nza1 h rfl)
theorem in1I1 : ∃ Y i r j q w t g, InF (.sl 1 [.nils, .int .i64 0, .bool true, nmV (authN 2)]) (.sl 2 [nmV (authN 0), .int .i64 0, .str i, .str r, nmV (authN 2), .int .i64 0, .str j, .str q]) true .nils (.sl 0 []) 1 Y i r j q w t g := by
 have h := of_call (uce 5 [(⟨[], 0, true, authN 2⟩ : Pt)]) [anc 0, anc 1] [iI.done 1] 5 (wW1 kI) (by simp) wA1 (by simp)
 rw [of_c (c := uce 5 [(⟨[], 0, true, authN 2⟩ : Pt)]) (ss := [anc 0, anc 1]) (t := 5) (a := iI.done 1) rfl (by simp [sgdB, (indS iI rfl).2]) ((indM iI rfl true).trans (if_pos ⟨rfl, rfl, rfl, rfl⟩)), if_pos (by rw [own_cur]; decide), fnd_none rfl] at h
 exact mkI (ml_sign _ kI 1) (pcall_nza1 h rfl)
theorem in1E0 : ∃ Y i r j q w t g, InF (.sl 1 [.nils, .int .i64 0, .bool true, nmV (authN 2)]) (.sl 1 [nmV (authN 0), .int .i64 0, .str i, .str r]) true (eC 5 1) (eC 5 1) 0 Y i r j q w t g := by
 have h := of_call (uce 5 [(⟨[], 0, true, authN 2⟩ : Pt)]) [anc 0] [iE.done 1] 5 (wW1 kE) (by simp) wA0 (by simp)
 rw [of_no (c := uce 5 [(⟨[], 0, true, authN 2⟩ : Pt)]) (ss := [anc 0]) (t := 5) (a := iE.done 1) (.inl (by simp [sgdB, (indS iE rfl).1]))] at h
 exact mkI (ml_sign _ kE 1) (pcall_nza1 h rfl)
theorem in1E1 : ∃ Y i r j q w t g, InF (.sl 1 [.nils, .int .i64 0, .bool true, nmV (authN 2)]) (.sl 2 [nmV (authN 0), .int .i64 0, .str i, .str r, nmV (authN 2), .int .i64 0, .str j, .str q]) true (eC 5 1) (eC 5 1) 2 Y i r j q w t g := by
 have h := of_call (uce 5 [(⟨[], 0, true, authN 2⟩ : Pt)]) [anc 0, anc 1] [iE.done 1] 5 (wW1 kE) (by simp) wA1 (by simp)
 rw [of_c (c := uce 5 [(⟨[], 0, true, authN 2⟩ : Pt)]) (ss := [anc 0, anc 1]) (t := 5) (a := iE.done 1) rfl (by simp [sgdB, (indS iE rfl).2]) ((indM iE rfl true).trans (if_pos ⟨rfl, rfl, rfl, rfl⟩)), if_pos (by rw [own_cur]; decide), fnd_some (s := 5) (r := 1) (w := authV 0) rfl rfl n00] at h
 exact mkI (ml_sign _ kE 1) (pcall_nza1 h rfl)
theorem ind0000 : PCall prog 8 [.bool false, .bool false, .bool false, .bool false] (.bool true) := by
 obtain ⟨Y, i, r, j, q, w, t, g, aw, u5, an, an1, a0, a2, k0, hKy, sg, p⟩ := in0N0
 dsimp only [uC, lC, eC, List.cons_append, List.nil_append] at u5 sg p
 refine pcall_body func8 rfl call8 ?_ ?_
 rotate_left 1
 refine awp_slots (s' := (.bool false : V) :: (.bool false : V) :: (.bool false : V) :: (.bool false : V) :: zJ 60) rfl ?_; dsimp only [zJ]
 ·repeat' (first | refine Zz 4 ?_ | ((first | refine ZuD ?_ | (refine ZvD ?_ ?_; (focus (simp [hKy]; done)))); intro K9 h9; simp (disch := first | exact dd | fail) [hKy]; refine Zm ?_; ((first | refine Zc u5 ?_ | refine Zc an ?_ | refine Zc an1 ?_ | refine Zc aw ?_ | refine Zc a0 ?_ | refine Zc a2 ?_ | refine Zc k0 ?_ | refine Zc sg ?_ | refine acall_view p ⟨.pure (by simp), .pure .sl, view_row rfl (by simp) (by simp), .pure .int, trivial⟩ .int ?_ | skip) <;> (refine ZfD h9 ?_; clear h9 K9))) | refine ZtD ?_ | refine Y8 fun K hK => ?_ | (apply hK; clear hK K) | ((first | refine DU.Zk (ops := #[_, _, _, _, _, _, _, _, _, _, _, _, _]) 1 [0, 0, 0, 1, 1, 0, 0, 0, 0, 0, 1, 0, 0] ?_ | refine DU.Zk 1 [] ?_); refine Zl ?_) | (refine Yb rfl ?_ ?_ <;> intro hcnd <;> (try simp at hcnd) <;> try exact dc) | (refine ZnD ?_ ?_; (focus (simp [hKy]; done)); refine ZsD ?_) | refine Zx ?_ | clear hK K)
  simp
  exact .pure .bool
 ·exact .bool
theorem ind0001 : PCall prog 8 [.bool false, .bool false, .bool false, .bool true] (.bool true) := by
 obtain ⟨Y, i, r, j, q, w, t, g, aw, u5, an, an1, a0, a2, k0, hKy, sg, p⟩ := in0N0
 dsimp only [uC, lC, eC, List.cons_append, List.nil_append] at u5 sg p
 refine pcall_body func8 rfl call8 ?_ ?_
 rotate_left 1
 refine awp_slots (s' := (.bool false : V) :: (.bool false : V) :: (.bool false : V) :: (.bool true : V) :: zJ 60) rfl ?_; dsimp only [zJ]
 ·repeat' (first | refine Zz 4 ?_ | ((first | refine ZuD ?_ | (refine ZvD ?_ ?_; (focus (simp [hKy]; done)))); intro K9 h9; simp (disch := first | exact dd | fail) [hKy]; refine Zm ?_; ((first | refine Zc u5 ?_ | refine Zc an ?_ | refine Zc an1 ?_ | refine Zc aw ?_ | refine Zc a0 ?_ | refine Zc a2 ?_ | refine Zc k0 ?_ | refine Zc sg ?_ | refine acall_view p ⟨.pure (by simp), .pure .sl, view_row rfl (by simp) (by simp), .pure .int, trivial⟩ .int ?_ | skip) <;> (refine ZfD h9 ?_; clear h9 K9))) | refine ZtD ?_ | refine Y8 fun K hK => ?_ | (apply hK; clear hK K) | ((first | refine DU.Zk (ops := #[_, _, _, _, _, _, _, _, _, _, _, _, _]) 1 [0, 0, 0, 1, 1, 0, 0, 0, 0, 0, 1, 0, 0] ?_ | refine DU.Zk 1 [] ?_); refine Zl ?_) | (refine Yb rfl ?_ ?_ <;> intro hcnd <;> (try simp at hcnd) <;> try exact dc) | (refine ZnD ?_ ?_; (focus (simp [hKy]; done)); refine ZsD ?_) | refine Zx ?_ | clear hK K)
  simp
  exact .pure .bool
 ·exact .bool
theorem ind0010 : PCall prog 8 [.bool false, .bool false, .bool true, .bool false] (.bool true) := by
 obtain ⟨Y, i, r, j, q, w, t, g, aw, u5, an, an1, a0, a2, k0, hKy, sg, p⟩ := in0N1
 dsimp only [uC, lC, eC, List.cons_append, List.nil_append] at u5 sg p
 refine pcall_body func8 rfl call8 ?_ ?_
 rotate_left 1
 refine awp_slots (s' := (.bool false : V) :: (.bool false : V) :: (.bool true : V) :: (.bool false : V) :: zJ 60) rfl ?_; dsimp only [zJ]
 ·repeat' (first | refine Zz 6 ?_ | ((first | refine ZuD ?_ | (refine ZvD ?_ ?_; (focus (simp [hKy]; done)))); intro K9 h9; simp (disch := first | exact dd | fail) [hKy]; refine Zm ?_; ((first | refine Zc u5 ?_ | refine Zc an ?_ | refine Zc an1 ?_ | refine Zc aw ?_ | refine Zc a0 ?_ | refine Zc a2 ?_ | refine Zc k0 ?_ | refine Zc sg ?_ | refine acall_view p ⟨.pure (by simp), .pure .sl, view_row rfl (by simp) (by simp), .pure .int, trivial⟩ .int ?_ | skip) <;> (refine ZfD h9 ?_; clear h9 K9))) | refine ZtD ?_ | refine Y8 fun K hK => ?_ | (apply hK; clear hK K) | ((first | refine DU.Zk (ops := #[_, _, _, _, _, _, _, _, _, _, _, _, _]) 1 [0, 0, 0, 1, 1, 0, 0, 0, 0, 0, 1, 0, 0] ?_ | refine DU.Zk 1 [] ?_); refine Zl ?_) | (refine Yb rfl ?_ ?_ <;> intro hcnd <;> (try simp at hcnd) <;> try exact dc) | (refine ZnD ?_ ?_; (focus (simp [hKy]; done)); refine ZsD ?_) | refine Zx ?_ | clear hK K)
  simp
  exact .pure .bool
 ·exact .bool
theorem ind0011 : PCall prog 8 [.bool false, .bool false, .bool true, .bool true] (.bool true) := by
 obtain ⟨Y, i, r, j, q, w, t, g, aw, u5, an, an1, a0, a2, k0, hKy, sg, p⟩ := in0N1
 dsimp only [uC, lC, eC, List.cons_append, List.nil_append] at u5 sg p
 refine pcall_body func8 rfl call8 ?_ ?_
 rotate_left 1
 refine awp_slots (s' := (.bool false : V) :: (.bool false : V) :: (.bool true : V) :: (.bool true : V) :: zJ 60) rfl ?_; dsimp only [zJ]
 ·repeat' (first | refine Zz 6 ?_ | ((first | refine ZuD ?_ | (refine ZvD ?_ ?_; (focus (simp [hKy]; done)))); intro K9 h9; simp (disch := first | exact dd | fail) [hKy]; refine Zm ?_; ((first | refine Zc u5 ?_ | refine Zc an ?_ | refine Zc an1 ?_ | refine Zc aw ?_ | refine Zc a0 ?_ | refine Zc a2 ?_ | refine Zc k0 ?_ | refine Zc sg ?_ | refine acall_view p ⟨.pure (by simp), .pure .sl, view_row rfl (by simp) (by simp), .pure .int, trivial⟩ .int ?_ | skip) <;> (refine ZfD h9 ?_; clear h9 K9))) | refine ZtD ?_ | refine Y8 fun K hK => ?_ | (apply hK; clear hK K) | ((first | refine DU.Zk (ops := #[_, _, _, _, _, _, _, _, _, _, _, _, _]) 1 [0, 0, 0, 1, 1, 0, 0, 0, 0, 0, 1, 0, 0] ?_ | refine DU.Zk 1 [] ?_); refine Zl ?_) | (refine Yb rfl ?_ ?_ <;> intro hcnd <;> (try simp at hcnd) <;> try exact dc) | (refine ZnD ?_ ?_; (focus (simp [hKy]; done)); refine ZsD ?_) | refine Zx ?_ | clear hK K)
  simp
  exact .pure .bool
 ·exact .bool
theorem ind0100 : PCall prog 8 [.bool false, .bool true, .bool false, .bool false] (.bool true) := by
 obtain ⟨Y, i, r, j, q, w, t, g, aw, u5, an, an1, a0, a2, k0, hKy, sg, p⟩ := in0I0
 dsimp only [uC, lC, eC, List.cons_append, List.nil_append] at u5 sg p
 refine pcall_body func8 rfl call8 ?_ ?_
 rotate_left 1
 refine awp_slots (s' := (.bool false : V) :: (.bool true : V) :: (.bool false : V) :: (.bool false : V) :: zJ 60) rfl ?_; dsimp only [zJ]
 ·repeat' (first | refine Zz 4 ?_ | ((first | refine ZuD ?_ | (refine ZvD ?_ ?_; (focus (simp [hKy]; done)))); intro K9 h9; simp (disch := first | exact dd | fail) [hKy]; refine Zm ?_; ((first | refine Zc u5 ?_ | refine Zc an ?_ | refine Zc an1 ?_ | refine Zc aw ?_ | refine Zc a0 ?_ | refine Zc a2 ?_ | refine Zc k0 ?_ | refine Zc sg ?_ | refine acall_view p ⟨.pure (by simp), .pure .sl, view_row rfl (by simp) (by simp), .pure .int, trivial⟩ .int ?_ | skip) <;> (refine ZfD h9 ?_; clear h9 K9))) | refine ZtD ?_ | refine Y8 fun K hK => ?_ | (apply hK; clear hK K) | ((first | refine DU.Zk (ops := #[_, _, _, _, _, _, _, _, _, _, _, _, _]) 1 [0, 0, 0, 1, 1, 0, 0, 0, 0, 0, 1, 0, 0] ?_ | refine DU.Zk 1 [] ?_); refine Zl ?_) | (refine Yb rfl ?_ ?_ <;> intro hcnd <;> (try simp at hcnd) <;> try exact dc) | (refine ZnD ?_ ?_; (focus (simp [hKy]; done)); refine ZsD ?_) | refine Zx ?_ | clear hK K)
  simp
  exact .pure .bool
 ·exact .bool
theorem ind0101 : PCall prog 8 [.bool false, .bool true, .bool false, .bool true] (.bool true) := by
 obtain ⟨Y, i, r, j, q, w, t, g, aw, u5, an, an1, a0, a2, k0, hKy, sg, p⟩ := in0E0
 dsimp only [uC, lC, eC, List.cons_append, List.nil_append] at u5 sg p
 refine pcall_body func8 rfl call8 ?_ ?_
 rotate_left 1
 refine awp_slots (s' := (.bool false : V) :: (.bool true : V) :: (.bool false : V) :: (.bool true : V) :: zJ 60) rfl ?_; dsimp only [zJ]
 ·repeat' (first | refine Zz 4 ?_ | refine Zz 5 ?_ | ((first | refine ZuD ?_ | (refine ZvD ?_ ?_; (focus (simp [hKy]; done)))); intro K9 h9; simp (disch := first | exact dd | fail) [hKy]; refine Zm ?_; ((first | refine Zc u5 ?_ | refine Zc an ?_ | refine Zc an1 ?_ | refine Zc aw ?_ | refine Zc a0 ?_ | refine Zc a2 ?_ | refine Zc k0 ?_ | refine Zc sg ?_ | refine acall_view p ⟨.pure (by simp), .pure .sl, view_row rfl (by simp) (by simp), .pure .int, trivial⟩ .int ?_ | skip) <;> (refine ZfD h9 ?_; clear h9 K9))) | refine ZtD ?_ | refine Y8 fun K hK => ?_ | (apply hK; clear hK K) | ((first | refine DU.Zk (ops := #[_, _, _, _, _, _, _, _, _, _, _, _, _]) 1 [0, 0, 0, 1, 1, 0, 0, 0, 0, 0, 1, 0, 0] ?_ | refine DU.Zk 1 [] ?_); refine Zl ?_) | (refine Yb rfl ?_ ?_ <;> intro hcnd <;> (try simp at hcnd) <;> try exact dc) | (refine ZnD ?_ ?_; (focus (simp [hKy]; done)); refine ZsD ?_) | refine Zx ?_ | clear hK K)
  simp
  exact .pure .bool
 ·exact .bool
theorem ind0110 : PCall prog 8 [.bool false, .bool true, .bool true, .bool false] (.bool true) := by
 obtain ⟨Y, i, r, j, q, w, t, g, aw, u5, an, an1, a0, a2, k0, hKy, sg, p⟩ := in0I1
 dsimp only [uC, lC, eC, List.cons_append, List.nil_append] at u5 sg p
 refine pcall_body func8 rfl call8 ?_ ?_
 rotate_left 1
 refine awp_slots (s' := (.bool false : V) :: (.bool true : V) :: (.bool true : V) :: (.bool false : V) :: zJ 60) rfl ?_; dsimp only [zJ]
 ·repeat' (first | refine Zz 6 ?_ | ((first | refine ZuD ?_ | (refine ZvD ?_ ?_; (focus (simp [hKy]; done)))); intro K9 h9; simp (disch := first | exact dd | fail) [hKy]; refine Zm ?_; ((first | refine Zc u5 ?_ | refine Zc an ?_ | refine Zc an1 ?_ | refine Zc aw ?_ | refine Zc a0 ?_ | refine Zc a2 ?_ | refine Zc k0 ?_ | refine Zc sg ?_ | refine acall_view p ⟨.pure (by simp), .pure .sl, view_row rfl (by simp) (by simp), .pure .int, trivial⟩ .int ?_ | skip) <;> (refine ZfD h9 ?_; clear h9 K9))) | refine ZtD ?_ | refine Y8 fun K hK => ?_ | (apply hK; clear hK K) | ((first | refine DU.Zk (ops := #[_, _, _, _, _, _, _, _, _, _, _, _, _]) 1 [0, 0, 0, 1, 1, 0, 0, 0, 0, 0, 1, 0, 0] ?_ | refine DU.Zk 1 [] ?_); refine Zl ?_) | (refine Yb rfl ?_ ?_ <;> intro hcnd <;> (try simp at hcnd) <;> try exact dc) | (refine ZnD ?_ ?_; (focus (simp [hKy]; done)); refine ZsD ?_) | refine Zx ?_ | clear hK K)
  simp
  exact .pure .bool
 ·exact .bool
theorem ind0111 : PCall prog 8 [.bool false, .bool true, .bool true, .bool true] (.bool true) := by
 obtain ⟨Y, i, r, j, q, w, t, g, aw, u5, an, an1, a0, a2, k0, hKy, sg, p⟩ := in0E1
 dsimp only [uC, lC, eC, List.cons_append, List.nil_append] at u5 sg p
 refine pcall_body func8 rfl call8 ?_ ?_
 rotate_left 1
 refine awp_slots (s' := (.bool false : V) :: (.bool true : V) :: (.bool true : V) :: (.bool true : V) :: zJ 60) rfl ?_; dsimp only [zJ]
 ·repeat' (first | refine Zz 4 ?_ | refine Zz 7 ?_ | ((first | refine ZuD ?_ | (refine ZvD ?_ ?_; (focus (simp [hKy]; done)))); intro K9 h9; simp (disch := first | exact dd | fail) [hKy]; refine Zm ?_; ((first | refine Zc u5 ?_ | refine Zc an ?_ | refine Zc an1 ?_ | refine Zc aw ?_ | refine Zc a0 ?_ | refine Zc a2 ?_ | refine Zc k0 ?_ | refine Zc sg ?_ | refine acall_view p ⟨.pure (by simp), .pure .sl, view_row rfl (by simp) (by simp), .pure .int, trivial⟩ .int ?_ | skip) <;> (refine ZfD h9 ?_; clear h9 K9))) | refine ZtD ?_ | refine Y8 fun K hK => ?_ | (apply hK; clear hK K) | ((first | refine DU.Zk (ops := #[_, _, _, _, _, _, _, _, _, _, _, _, _]) 1 [0, 0, 0, 1, 1, 0, 0, 0, 0, 0, 1, 0, 0] ?_ | refine DU.Zk 1 [] ?_); refine Zl ?_) | (refine Yb rfl ?_ ?_ <;> intro hcnd <;> (try simp at hcnd) <;> try exact dc) | (refine ZnD ?_ ?_; (focus (simp [hKy]; done)); refine ZsD ?_) | refine Zx ?_ | clear hK K)
  simp
  exact .pure .bool
 ·exact .bool
theorem ind1000 : PCall prog 8 [.bool true, .bool false, .bool false, .bool false] (.bool true) := by
 obtain ⟨Y, i, r, j, q, w, t, g, aw, u5, an, an1, a0, a2, k0, hKy, sg, p⟩ := in1N0
 dsimp only [uC, lC, eC, List.cons_append, List.nil_append] at u5 sg p
 refine pcall_body func8 rfl call8 ?_ ?_
 rotate_left 1
 refine awp_slots (s' := (.bool true : V) :: (.bool false : V) :: (.bool false : V) :: (.bool false : V) :: zJ 60) rfl ?_; dsimp only [zJ]
 ·repeat' (first | refine Zz 3 ?_ | refine Zz 5 ?_ | ((first | refine ZuD ?_ | (refine ZvD ?_ ?_; (focus (simp [hKy]; done)))); intro K9 h9; simp (disch := first | exact dd | fail) [hKy]; refine Zm ?_; ((first | refine Zc u5 ?_ | refine Zc an ?_ | refine Zc an1 ?_ | refine Zc aw ?_ | refine Zc a0 ?_ | refine Zc a2 ?_ | refine Zc k0 ?_ | refine Zc sg ?_ | refine acall_view p ⟨.pure (by simp), .pure .sl, view_row rfl (by simp) (by simp), .pure .int, trivial⟩ .int ?_ | skip) <;> (refine ZfD h9 ?_; clear h9 K9))) | refine ZtD ?_ | refine Y8 fun K hK => ?_ | (apply hK; clear hK K) | ((first | refine DU.Zk (ops := #[_, _, _, _, _, _, _, _, _, _, _, _, _]) 1 [0, 0, 0, 1, 1, 0, 0, 0, 0, 0, 1, 0, 0] ?_ | refine DU.Zk 1 [] ?_); refine Zl ?_) | (refine Yb rfl ?_ ?_ <;> intro hcnd <;> (try simp at hcnd) <;> try exact dc) | (refine ZnD ?_ ?_; (focus (simp [hKy]; done)); refine ZsD ?_) | refine Zx ?_ | clear hK K)
  simp
  exact .pure .bool
 ·exact .bool
theorem ind1001 : PCall prog 8 [.bool true, .bool false, .bool false, .bool true] (.bool true) := by
 obtain ⟨Y, i, r, j, q, w, t, g, aw, u5, an, an1, a0, a2, k0, hKy, sg, p⟩ := in1N0
 dsimp only [uC, lC, eC, List.cons_append, List.nil_append] at u5 sg p
 refine pcall_body func8 rfl call8 ?_ ?_
 rotate_left 1
 refine awp_slots (s' := (.bool true : V) :: (.bool false : V) :: (.bool false : V) :: (.bool true : V) :: zJ 60) rfl ?_; dsimp only [zJ]
 ·repeat' (first | refine Zz 3 ?_ | refine Zz 5 ?_ | ((first | refine ZuD ?_ | (refine ZvD ?_ ?_; (focus (simp [hKy]; done)))); intro K9 h9; simp (disch := first | exact dd | fail) [hKy]; refine Zm ?_; ((first | refine Zc u5 ?_ | refine Zc an ?_ | refine Zc an1 ?_ | refine Zc aw ?_ | refine Zc a0 ?_ | refine Zc a2 ?_ | refine Zc k0 ?_ | refine Zc sg ?_ | refine acall_view p ⟨.pure (by simp), .pure .sl, view_row rfl (by simp) (by simp), .pure .int, trivial⟩ .int ?_ | skip) <;> (refine ZfD h9 ?_; clear h9 K9))) | refine ZtD ?_ | refine Y8 fun K hK => ?_ | (apply hK; clear hK K) | ((first | refine DU.Zk (ops := #[_, _, _, _, _, _, _, _, _, _, _, _, _]) 1 [0, 0, 0, 1, 1, 0, 0, 0, 0, 0, 1, 0, 0] ?_ | refine DU.Zk 1 [] ?_); refine Zl ?_) | (refine Yb rfl ?_ ?_ <;> intro hcnd <;> (try simp at hcnd) <;> try exact dc) | (refine ZnD ?_ ?_; (focus (simp [hKy]; done)); refine ZsD ?_) | refine Zx ?_ | clear hK K)
  simp
  exact .pure .bool
 ·exact .bool
theorem ind1010 : PCall prog 8 [.bool true, .bool false, .bool true, .bool false] (.bool true) := by
 obtain ⟨Y, i, r, j, q, w, t, g, aw, u5, an, an1, a0, a2, k0, hKy, sg, p⟩ := in1N1
 dsimp only [uC, lC, eC, List.cons_append, List.nil_append] at u5 sg p
 refine pcall_body func8 rfl call8 ?_ ?_
 rotate_left 1
 refine awp_slots (s' := (.bool true : V) :: (.bool false : V) :: (.bool true : V) :: (.bool false : V) :: zJ 60) rfl ?_; dsimp only [zJ]
 ·repeat' (first | refine Zz 3 ?_ | refine Zz 7 ?_ | ((first | refine ZuD ?_ | (refine ZvD ?_ ?_; (focus (simp [hKy]; done)))); intro K9 h9; simp (disch := first | exact dd | fail) [hKy]; refine Zm ?_; ((first | refine Zc u5 ?_ | refine Zc an ?_ | refine Zc an1 ?_ | refine Zc aw ?_ | refine Zc a0 ?_ | refine Zc a2 ?_ | refine Zc k0 ?_ | refine Zc sg ?_ | refine acall_view p ⟨.pure (by simp), .pure .sl, view_row rfl (by simp) (by simp), .pure .int, trivial⟩ .int ?_ | skip) <;> (refine ZfD h9 ?_; clear h9 K9))) | refine ZtD ?_ | refine Y8 fun K hK => ?_ | (apply hK; clear hK K) | ((first | refine DU.Zk (ops := #[_, _, _, _, _, _, _, _, _, _, _, _, _]) 1 [0, 0, 0, 1, 1, 0, 0, 0, 0, 0, 1, 0, 0] ?_ | refine DU.Zk 1 [] ?_); refine Zl ?_) | (refine Yb rfl ?_ ?_ <;> intro hcnd <;> (try simp at hcnd) <;> try exact dc) | (refine ZnD ?_ ?_; (focus (simp [hKy]; done)); refine ZsD ?_) | refine Zx ?_ | clear hK K)
  simp
  exact .pure .bool
 ·exact .bool
theorem ind1011 : PCall prog 8 [.bool true, .bool false, .bool true, .bool true] (.bool true) := by
 obtain ⟨Y, i, r, j, q, w, t, g, aw, u5, an, an1, a0, a2, k0, hKy, sg, p⟩ := in1N1
 dsimp only [uC, lC, eC, List.cons_append, List.nil_append] at u5 sg p
 refine pcall_body func8 rfl call8 ?_ ?_
 rotate_left 1
 refine awp_slots (s' := (.bool true : V) :: (.bool false : V) :: (.bool true : V) :: (.bool true : V) :: zJ 60) rfl ?_; dsimp only [zJ]
 ·repeat' (first | refine Zz 3 ?_ | refine Zz 7 ?_ | ((first | refine ZuD ?_ | (refine ZvD ?_ ?_; (focus (simp [hKy]; done)))); intro K9 h9; simp (disch := first | exact dd | fail) [hKy]; refine Zm ?_; ((first | refine Zc u5 ?_ | refine Zc an ?_ | refine Zc an1 ?_ | refine Zc aw ?_ | refine Zc a0 ?_ | refine Zc a2 ?_ | refine Zc k0 ?_ | refine Zc sg ?_ | refine acall_view p ⟨.pure (by simp), .pure .sl, view_row rfl (by simp) (by simp), .pure .int, trivial⟩ .int ?_ | skip) <;> (refine ZfD h9 ?_; clear h9 K9))) | refine ZtD ?_ | refine Y8 fun K hK => ?_ | (apply hK; clear hK K) | ((first | refine DU.Zk (ops := #[_, _, _, _, _, _, _, _, _, _, _, _, _]) 1 [0, 0, 0, 1, 1, 0, 0, 0, 0, 0, 1, 0, 0] ?_ | refine DU.Zk 1 [] ?_); refine Zl ?_) | (refine Yb rfl ?_ ?_ <;> intro hcnd <;> (try simp at hcnd) <;> try exact dc) | (refine ZnD ?_ ?_; (focus (simp [hKy]; done)); refine ZsD ?_) | refine Zx ?_ | clear hK K)
  simp
  exact .pure .bool
 ·exact .bool
theorem ind1100 : PCall prog 8 [.bool true, .bool true, .bool false, .bool false] (.bool true) := by
 obtain ⟨Y, i, r, j, q, w, t, g, aw, u5, an, an1, a0, a2, k0, hKy, sg, p⟩ := in1I0
 dsimp only [uC, lC, eC, List.cons_append, List.nil_append] at u5 sg p
 refine pcall_body func8 rfl call8 ?_ ?_
 rotate_left 1
 refine awp_slots (s' := (.bool true : V) :: (.bool true : V) :: (.bool false : V) :: (.bool false : V) :: zJ 60) rfl ?_; dsimp only [zJ]
 ·repeat' (first | refine Zz 3 ?_ | refine Zz 5 ?_ | ((first | refine ZuD ?_ | (refine ZvD ?_ ?_; (focus (simp [hKy]; done)))); intro K9 h9; simp (disch := first | exact dd | fail) [hKy]; refine Zm ?_; ((first | refine Zc u5 ?_ | refine Zc an ?_ | refine Zc an1 ?_ | refine Zc aw ?_ | refine Zc a0 ?_ | refine Zc a2 ?_ | refine Zc k0 ?_ | refine Zc sg ?_ | refine acall_view p ⟨.pure (by simp), .pure .sl, view_row rfl (by simp) (by simp), .pure .int, trivial⟩ .int ?_ | skip) <;> (refine ZfD h9 ?_; clear h9 K9))) | refine ZtD ?_ | refine Y8 fun K hK => ?_ | (apply hK; clear hK K) | ((first | refine DU.Zk (ops := #[_, _, _, _, _, _, _, _, _, _, _, _, _]) 1 [0, 0, 0, 1, 1, 0, 0, 0, 0, 0, 1, 0, 0] ?_ | refine DU.Zk 1 [] ?_); refine Zl ?_) | (refine Yb rfl ?_ ?_ <;> intro hcnd <;> (try simp at hcnd) <;> try exact dc) | (refine ZnD ?_ ?_; (focus (simp [hKy]; done)); refine ZsD ?_) | refine Zx ?_ | clear hK K)
  simp
  exact .pure .bool
 ·exact .bool
theorem ind1101 : PCall prog 8 [.bool true, .bool true, .bool false, .bool true] (.bool true) := by
 obtain ⟨Y, i, r, j, q, w, t, g, aw, u5, an, an1, a0, a2, k0, hKy, sg, p⟩ := in1E0
 dsimp only [uC, lC, eC, List.cons_append, List.nil_append] at u5 sg p
 refine pcall_body func8 rfl call8 ?_ ?_
 rotate_left 1
 refine awp_slots (s' := (.bool true : V) :: (.bool true : V) :: (.bool false : V) :: (.bool true : V) :: zJ 60) rfl ?_; dsimp only [zJ]
 ·repeat' (first | refine Zz 3 ?_ | refine Zz 5 ?_ | refine Zz 6 ?_ | ((first | refine ZuD ?_ | (refine ZvD ?_ ?_; (focus (simp [hKy]; done)))); intro K9 h9; simp (disch := first | exact dd | fail) [hKy]; refine Zm ?_; ((first | refine Zc u5 ?_ | refine Zc an ?_ | refine Zc an1 ?_ | refine Zc aw ?_ | refine Zc a0 ?_ | refine Zc a2 ?_ | refine Zc k0 ?_ | refine Zc sg ?_ | refine acall_view p ⟨.pure (by simp), .pure .sl, view_row rfl (by simp) (by simp), .pure .int, trivial⟩ .int ?_ | skip) <;> (refine ZfD h9 ?_; clear h9 K9))) | refine ZtD ?_ | refine Y8 fun K hK => ?_ | (apply hK; clear hK K) | ((first | refine DU.Zk (ops := #[_, _, _, _, _, _, _, _, _, _, _, _, _]) 1 [0, 0, 0, 1, 1, 0, 0, 0, 0, 0, 1, 0, 0] ?_ | refine DU.Zk 1 [] ?_); refine Zl ?_) | (refine Yb rfl ?_ ?_ <;> intro hcnd <;> (try simp at hcnd) <;> try exact dc) | (refine ZnD ?_ ?_; (focus (simp [hKy]; done)); refine ZsD ?_) | refine Zx ?_ | clear hK K)
  simp
  exact .pure .bool
 ·exact .bool
theorem ind1110 : PCall prog 8 [.bool true, .bool true, .bool true, .bool false] (.bool true) := by
 obtain ⟨Y, i, r, j, q, w, t, g, aw, u5, an, an1, a0, a2, k0, hKy, sg, p⟩ := in1I1
 dsimp only [uC, lC, eC, List.cons_append, List.nil_append] at u5 sg p
 refine pcall_body func8 rfl call8 ?_ ?_
 rotate_left 1
 refine awp_slots (s' := (.bool true : V) :: (.bool true : V) :: (.bool true : V) :: (.bool false : V) :: zJ 60) rfl ?_; dsimp only [zJ]
 ·repeat' (first | refine Zz 3 ?_ | refine Zz 7 ?_ | ((first | refine ZuD ?_ | (refine ZvD ?_ ?_; (focus (simp [hKy]; done)))); intro K9 h9; simp (disch := first | exact dd | fail) [hKy]; refine Zm ?_; ((first | refine Zc u5 ?_ | refine Zc an ?_ | refine Zc an1 ?_ | refine Zc aw ?_ | refine Zc a0 ?_ | refine Zc a2 ?_ | refine Zc k0 ?_ | refine Zc sg ?_ | refine acall_view p ⟨.pure (by simp), .pure .sl, view_row rfl (by simp) (by simp), .pure .int, trivial⟩ .int ?_ | skip) <;> (refine ZfD h9 ?_; clear h9 K9))) | refine ZtD ?_ | refine Y8 fun K hK => ?_ | (apply hK; clear hK K) | ((first | refine DU.Zk (ops := #[_, _, _, _, _, _, _, _, _, _, _, _, _]) 1 [0, 0, 0, 1, 1, 0, 0, 0, 0, 0, 1, 0, 0] ?_ | refine DU.Zk 1 [] ?_); refine Zl ?_) | (refine Yb rfl ?_ ?_ <;> intro hcnd <;> (try simp at hcnd) <;> try exact dc) | (refine ZnD ?_ ?_; (focus (simp [hKy]; done)); refine ZsD ?_) | refine Zx ?_ | clear hK K)
  simp
  exact .pure .bool
 ·exact .bool
theorem ind1111 : PCall prog 8 [.bool true, .bool true, .bool true, .bool true] (.bool true) := by
 obtain ⟨Y, i, r, j, q, w, t, g, aw, u5, an, an1, a0, a2, k0, hKy, sg, p⟩ := in1E1
 dsimp only [uC, lC, eC, List.cons_append, List.nil_append] at u5 sg p
 refine pcall_body func8 rfl call8 ?_ ?_
 rotate_left 1
 refine awp_slots (s' := (.bool true : V) :: (.bool true : V) :: (.bool true : V) :: (.bool true : V) :: zJ 60) rfl ?_; dsimp only [zJ]
 ·repeat' (first | refine Zz 3 ?_ | refine Zz 5 ?_ | refine Zz 8 ?_ | ((first | refine ZuD ?_ | (refine ZvD ?_ ?_; (focus (simp [hKy]; done)))); intro K9 h9; simp (disch := first | exact dd | fail) [hKy]; refine Zm ?_; ((first | refine Zc u5 ?_ | refine Zc an ?_ | refine Zc an1 ?_ | refine Zc aw ?_ | refine Zc a0 ?_ | refine Zc a2 ?_ | refine Zc k0 ?_ | refine Zc sg ?_ | refine acall_view p ⟨.pure (by simp), .pure .sl, view_row rfl (by simp) (by simp), .pure .int, trivial⟩ .int ?_ | skip) <;> (refine ZfD h9 ?_; clear h9 K9))) | refine ZtD ?_ | refine Y8 fun K hK => ?_ | (apply hK; clear hK K) | ((first | refine DU.Zk (ops := #[_, _, _, _, _, _, _, _, _, _, _, _, _]) 1 [0, 0, 0, 1, 1, 0, 0, 0, 0, 0, 1, 0, 0] ?_ | refine DU.Zk 1 [] ?_); refine Zl ?_) | (refine Yb rfl ?_ ?_ <;> intro hcnd <;> (try simp at hcnd) <;> try exact dc) | (refine ZnD ?_ ?_; (focus (simp [hKy]; done)); refine ZsD ?_) | refine Zx ?_ | clear hK K)
  simp
  exact .pure .bool
 ·exact .bool
theorem indirect_call (named indirect signer revoked : Bool) : PCall prog 8 [.bool named, .bool indirect, .bool signer, .bool revoked] (.bool true) := by
 cases named <;> cases indirect <;> cases signer <;> cases revoked
 ·exact ind0000
 ·exact ind0001
 ·exact ind0010
 ·exact ind0011
 ·exact ind0100
 ·exact ind0101
 ·exact ind0110
 ·exact ind0111
 ·exact ind1000
 ·exact ind1001
 ·exact ind1010
 ·exact ind1011
 ·exact ind1100
 ·exact ind1101
 ·exact ind1110
 ·exact ind1111
theorem fitsB {P : Program} {t : TypeId} {f : Nat} {x : V} (ht : P.underlying t = some .bool) (h : FitsV P (f + 1) t x) : ∃ b, x = .bool b := by
 simpa [FitsV, ht, Fits] using h
theorem indirect_fits : ∀ xs, FitsAll prog 8 Tryz.f8.params.toList xs → PCall prog 8 xs (.bool true) := by
 intro xs h
 rw [show Tryz.f8.params.toList = [4, 4, 4, 4] by kernel_rfl] at h
 obtain ⟨x1, xs, rfl, h1, h⟩ := fitsAll_cons h
 obtain ⟨x2, xs, rfl, h2, h⟩ := fitsAll_cons h
 obtain ⟨x3, xs, rfl, h3, h⟩ := fitsAll_cons h
 obtain ⟨x4, xs, rfl, h4, h⟩ := fitsAll_cons h
 obtain rfl := fitsAll_nil h
 obtain ⟨b1, rfl⟩ := fitsB (by kernel_rfl) h1
 obtain ⟨b2, rfl⟩ := fitsB (by kernel_rfl) h2
 obtain ⟨b3, rfl⟩ := fitsB (by kernel_rfl) h3
 obtain ⟨b4, rfl⟩ := fitsB (by kernel_rfl) h4
 exact indirect_call b1 b2 b3 b4
end Go.Proofs.YtnpndfmbkmbhbaaGreatDoor

