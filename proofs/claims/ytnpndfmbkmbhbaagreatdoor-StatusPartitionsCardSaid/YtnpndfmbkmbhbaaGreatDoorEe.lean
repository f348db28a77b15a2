/-
 STATUS: the plain laws of one complete list, of two, and of one with a delta list.
 Conditions: none.
-/
import Derived.Test.YtnpndfmbkmbhbaaGreatDoorD40
import Derived.Test.YtnpndfmbkmbhbaaGreatDoorEd
import Derived.Test.YtnpndfmbkmbhbaaGreatDoorEf
set_option maxRecDepth 100000
set_option maxHeartbeats 32000000
set_option linter.all false
namespace Go.Sta
open Go.VS Go.Stp Go.Proofs.YtnpndfmbkmbhbaaGreatDoor
def stV (v : Int) : Int := if v = 2 then 2 else if v = 3 then 3 else 1
theorem or0_510 : bits .or .i64 0 510 = 510 := by decide
theorem or510 : bits .or .i64 510 510 = 510 := by decide
theorem and510 : bits .and .i64 510 510 = 510 := by decide
theorem and0 : bits .and .i64 0 510 = 0 := by decide
theorem ofF1 {c : Ce} {ls : List Li} {p : Int × Int} (hm : maskS c (gi ls p.1) = 510) : ofF c ls [p] 0 false = stV (vdB c ls p) := by
 simp only [ofF, hm, or0_510, ofE, and510, stV, Bool.false_or, if_true]
 by_cases h2 : vdB c ls p = 2
 ·simp [h2]
 ·by_cases h3 : vdB c ls p = 3
  ·simp [h3]
  ·simp [h2, h3]
theorem vd0 {c : Ce} {a : Li} {l : List Li} : vdB c (a :: l) (0, -1) = vdR (fndE c a) := by
 unfold vdB
 rw [if_neg (by simp; omega)]
 simp [gi0]
theorem vd1 {c : Ce} {a b : Li} {l : List Li} : vdB c (a :: b :: l) (1, -1) = vdR (fndE c b) := by
 unfold vdB
 rw [if_neg (by simp; omega)]
 simp [gi1]
theorem vd01 {c : Ce} {a b : Li} {l : List Li} : vdB c (a :: b :: l) (0, 1) = vdR ((fndE c b).or (fndE c a)) := by
 unfold vdB
 rw [if_neg (by simp; omega)]
 simp [gi0, gi1]
theorem of_c {c : Ce} {ss : List An} {a : Li} {t : Int} (ha : a.base = -1) (sa : sgdB a ss = true) (ma : maskS c a = 510) : ofB c ss [a] t = if currentB a t = true then stV (vdR (fndE c a)) else 0 := by
 have hp := prfs_c (c := c) (ss := ss) (t := t) ha sa (by rw [ma]; decide)
 have h0 : losB [a] ((0 : Int), -1) (0, -1) = false := by simp [losB, nmr]
 cases hc : currentB a t
 ·have he : evid c ss [a] t = [] := by
   unfold evid
   rw [show [a].length = 1 from rfl, hp, hc]
   rfl
  rw [ofB, he]
  simp [ofF, ofE, and0]
 ·have he : evid c ss [a] t = [((0 : Int), -1)] := by
   unfold evid
   rw [show [a].length = 1 from rfl, hp, hc]
   simp [h0]
  rw [ofB, he, ofF1 (by rw [gi0]; exact ma), vd0]
  simp
theorem of_cd {c : Ce} {ss : List An} {a b : Li} {t : Int} (ha : a.base = -1) (hb : b.base ≠ -1) (sa : sgdB a ss = true) (sb : sgdB b ss = true) (ma : maskS c a = 510) (hs : serB a a = true) :
  ofB c ss [a, b] t = if extB a b = true ∧ currentB b t = true ∧ a.this ≤ t then stV (vdR ((fndE c b).or (fndE c a))) else if currentB a t = true then stV (vdR (fndE c a)) else 0 := by
 have hp := prfs_cd (c := c) (ss := ss) (t := t) ha hb sa sb (by rw [ma]; decide)
 have g0 : gi [a, b] 0 = a := rfl
 have g1 : gi [a, b] 1 = b := rfl
 have h0 : losB [a, b] ((0 : Int), -1) (0, -1) = false := by simp [losB, nmr]
 have h1 : losB [a, b] ((0 : Int), 1) (0, 1) = false := by simp [losB, nmr]
 by_cases hx : extB a b = true ∧ currentB b t = true ∧ a.this ≤ t
 ·have hn : a.number < b.number := by
   have := hx.1
   unfold extB at this
   simp at this
   exact this.2
  have h2 : losB [a, b] ((0 : Int), -1) (0, 1) = true := by simp [losB, nmr, g0, g1, hn, hs]
  have h3 : losB [a, b] ((0 : Int), 1) (0, -1) = false := by
   have : ¬ b.number < a.number := by omega
   simp [losB, nmr, g0, g1, this]
  have he : evid c ss [a, b] t = [((0 : Int), 1)] := by
   unfold evid
   rw [show [a, b].length = 2 from rfl, hp, if_pos hx]
   cases currentB a t <;> simp [h1, h2, h3]
  rw [ofB, he, ofF1 (by rw [g0]; exact ma), vd01, if_pos hx]
 ·rw [if_neg hx]
  cases hc : currentB a t
  ·have he : evid c ss [a, b] t = [] := by
    unfold evid
    rw [show [a, b].length = 2 from rfl, hp, if_neg hx, hc]
    rfl
   rw [ofB, he]
   simp [ofF, ofE, and0]
  ·have he : evid c ss [a, b] t = [((0 : Int), -1)] := by
    unfold evid
    rw [show [a, b].length = 2 from rfl, hp, if_neg hx, hc]
    simp [h0]
   rw [ofB, he, ofF1 (by rw [g0]; exact ma), vd0]
   simp
theorem ev_cc {c : Ce} {ss : List An} {a b : Li} {t : Int} (ha : a.base = -1) (hb : b.base = -1) (sa : sgdB a ss = true) (sb : sgdB b ss = true) (ma : maskS c a ≠ 0) (mb : maskS c b ≠ 0) (ca : currentB a t = true) (cb : currentB b t = true) (hn : a.number = b.number) : evid c ss [a, b] t = [((0 : Int), -1), (1, -1)] := by
 have hp := prfs_cc (c := c) (ss := ss) (t := t) ha hb sa sb ma mb ca cb
 have g0 : gi [a, b] 0 = a := rfl
 have g1 : gi [a, b] 1 = b := rfl
 have h : ∀ i j : Int, i = 0 ∨ i = 1 → j = 0 ∨ j = 1 → losB [a, b] (i, -1) (j, -1) = false := by
  rintro i j (rfl | rfl) (rfl | rfl) <;> simp [losB, nmr, g0, g1, hn]
 unfold evid
 rw [show [a, b].length = 2 from rfl, hp]
 simp [h]
theorem of_ev2 {c : Ce} {ss : List An} {a b : Li} {t : Int} (he : evid c ss [a, b] t = [((0 : Int), -1), (1, -1)]) (ma : maskS c a = 510) (mb : maskS c b = 510) :
  ofB c ss [a, b] t = if vdR (fndE c a) = 2 ∨ vdR (fndE c b) = 2 then 2 else if vdR (fndE c a) = 3 ∨ vdR (fndE c b) = 3 then 3 else 1 := by
 have g0 : gi [a, b] 0 = a := rfl
 have g1 : gi [a, b] 1 = b := rfl
 rw [ofB, he]
 simp only [ofF, vd0, vd1, g0, g1, ma, mb, or0_510, or510, ofE, and510, if_true]
 by_cases h1 : vdR (fndE c a) = 2
 ·simp [h1]
 ·by_cases h2 : vdR (fndE c b) = 2
  ·simp [h1, h2]
  ·by_cases h3 : vdR (fndE c a) = 3
   ·simp [h1, h2, h3]
   ·by_cases h4 : vdR (fndE c b) = 3
    ·simp [h1, h2, h3, h4]
    ·simp [h1, h2, h3, h4]
end Go.Sta
namespace Go.Sta
open Go.VS Go.Stp Go.Der Go.Proofs.YtnpndfmbkmbhbaaGreatDoor
def uce (s : Int) (pts : List Pt) : Ce := ⟨[], [], s, authN 0, [], 0, 0, ⟨0, [], []⟩, ⟨false, false, 0, 0, [], [], [], 0, 0, 0, [], false, ⟨[], []⟩, [], [], pts, [], []⟩, []⟩
def mlS (num : Nat) (kd : Kd) (en : Option (Nat × Nat × Bs)) : Ml := ⟨authV 0, 1, 9, num, kd, en⟩
theorem n00 : nameB (nm1 (authV 0)) (nm1 (authV 0)) = true := by decide +kernel
theorem n22 : nameB (nm1 (authV 2)) (nm1 (authV 2)) = true := by decide +kernel
theorem n02 : nameB (nm1 (authV 0)) (nm1 (authV 2)) = false := by decide +kernel
theorem n20 : nameB (nm1 (authV 2)) (nm1 (authV 0)) = false := by decide +kernel
structure Own0 (m : Ml) : Prop where
 v : m.v = authV 0
 k : m.kd = .N ∨ ∃ b, m.kd = .D b
theorem Own0.has {m : Ml} (h : Own0 m) : m.kd.has = false := by
 rcases h.k with h | ⟨b, h⟩ <;> rw [h] <;> rfl
theorem done_wst {m : Ml} (h : MlOk m) (k : Nat) : WSt (m.done k) := by
 have hC := ml_C m h
 have l1 := @wr_len 48 m.C
 have l2 := sgnS_length (mseedS (1000 + k)) 0 0 m.tbs (by omega)
 refine ⟨⟨wn_nm1 h.v.len, fun x hx => by simp [Ml.done, Ml.li] at hx, by simp [Ml.done, Ml.li]⟩, ?_, ?_, ?_⟩
 ·show (wr 48 m.C).length ≤ 1000
  omega
 ·show (m.sgn k).length ≤ 100000
  unfold Ml.sgn
  omega
 ·show WEn m.ens
  have he := h.e
  unfold Ml.ens WEn
  cases hh : m.en with
  | none => simp
  | some e =>
   obtain ⟨s, r, w⟩ := e
   exact ⟨by simp, fun x hx => by simp at hx; subst hx; exact wn_nm1 (he s r w hh).wok.len⟩
theorem anc_w (k : Nat) : WAn (anc k) := ⟨authN_w _, by simp [anc, pubK], by simp [anc, pubK]⟩
theorem done_sg1 (m : Ml) (k : Nat) (hn : nameB (authN (namedN k)) (nm1 m.v) = true) : sg1 (m.done k) (anc k) = true := by
 have h := verE_sgn (mseedS (1000 + k)) 0 0 m.tbs (by omega) (by omega)
 unfold sg1
 show (nameB (authN (namedN k)) (nm1 m.v) && decide (verE 0 (idS (mseedS (1000 + k))) (rootS (idS (mseedS (1000 + k))) (mseedS (1000 + k)) 0) m.tbs (sgnS (mseedS (1000 + k)) 0 0 m.tbs) = 0)) = true
 rw [hn]
 simpa using h
theorem own_sgd {m : Ml} (h : Own0 m) : sgdB (m.done 0) [anc 0] = true := by
 have := done_sg1 m 0 (by rw [h.v]; exact n00)
 simp [sgdB, this]
theorem own_mask {m : Ml} (h : Own0 m) (s : Int) : maskS (uce s []) (m.done 0) = 510 := by
 have hh := h.has
 have hn : nameB (m.done 0).issuer (authN 0) = true := by
  show nameB (nm1 m.v) (authN 0) = true
  rw [h.v]; exact n00
 have hd : (m.done 0).has = false := hh
 have hc : (coversS (uce s []) pt0 (m.done 0)).1 = 510 := by
  unfold coversS
  rw [show (uce s []).issuer = authN 0 from rfl, hn, hd]
  simp [pt0, coverM, allM, hd]
 unfold maskS maskT ptsOf
 show bits .or .i64 0 (coversS (uce s []) pt0 (m.done 0)).1 = 510
 rw [hc]
 exact or0_510
theorem own_ser {m n : Ml} (h : Own0 m) (h' : Own0 n) : serB (m.done 0) (n.done 0) = true := by
 have h1 : (m.done 0).has = false := h.has
 have h2 : (n.done 0).has = false := h'.has
 have hn : nameB (m.done 0).issuer (n.done 0).issuer = true := by
  show nameB (nm1 m.v) (nm1 n.v) = true
  rw [h.v, h'.v]; exact n00
 simp [serB, hn, sameSc, h1, h2]
theorem own_ext {m n : Ml} (h : Own0 m) (h' : Own0 n) : extB (m.done 0) (n.done 0) = (decide (m.kd.base = -1) && !decide (n.kd.base = -1) && decide (n.kd.base ≤ m.num) && decide ((m.num : Int) < n.num)) := by
 have h1 := own_ser h h'
 unfold serB at h1
 have h2 := (Bool.and_eq_true _ _ ▸ h1 : _ ∧ _)
 unfold extB
 rw [h2.1, h2.2]
 show (decide (m.kd.base = -1) && !decide (n.kd.base = -1) && true && true && decide (([] : Bs) = []) && decide (n.kd.base ≤ (m.num : Int)) && decide ((m.num : Int) < (n.num : Int))) = _
 simp
theorem own_cur (m : Ml) (k : Nat) (t : Int) : currentB (m.done k) t = (decide ((m.this : Int) ≤ t) && decide (t ≤ (m.next : Int))) := rfl
theorem uce_w (s : Int) {ls : List Li} (hn : ls.length ≤ 65536) (h : ∀ l ∈ ls, WSt l) : WWo (uce s []) ls := ⟨authN_w 0, by simp [uce], by simp [uce], hn, h⟩
theorem fnd_none {c : Ce} {m : Ml} {k : Nat} (h : m.en = none) : fndE c (m.done k) = none := by
 show m.ens.find? (entB c) = none
 simp [Ml.ens, h]
theorem fnd_some {c : Ce} {m : Ml} {k s r : Nat} {w : Bs} (h : m.en = some (s, r, w)) (hs : (s : Int) = c.serial) (hn : nameB (nm1 w) c.issuer = true) : fndE c (m.done k) = some ⟨s, 0, r, -1, nm1 w⟩ := by
 show m.ens.find? (entB c) = _
 have : entB c ⟨s, 0, r, -1, nm1 w⟩ = true := by simp [entB, hs, hn]
 simp [Ml.ens, h, this]
theorem fnd_other {c : Ce} {m : Ml} {k s r : Nat} {w : Bs} (h : m.en = some (s, r, w)) (hs : (s : Int) ≠ c.serial) : fndE c (m.done k) = none := by
 show m.ens.find? (entB c) = none
 have : entB c ⟨s, 0, r, -1, nm1 w⟩ = false := by simp [entB, hs]
 simp [Ml.ens, h, this]
end Go.Sta
namespace Go.Proofs.YtnpndfmbkmbhbaaGreatDoor
open Go.Proofs.Tryz
open Go.VS Go.Stp Go.Der Go.Sta
attribute [local irreducible] arun arunD arunU AWp aend verE wr
theorem vok0 : VOk (authV 0) := ⟨vtext_call 48 (by decide), by decide, by decide⟩
theorem vok2 : VOk (authV 2) := ⟨vtext_call 49 (by decide), by decide, by decide⟩
theorem mlS_ok (num : Nat) (kd : Kd) (hn : num < 100) (hk : kd = .N ∨ ∃ b, kd = .D b ∧ b < num) : MlOk (mlS num kd none) :=
 ⟨vok0, (by show 1 ≤ 9; omega), (by show 9 < 10; omega), hn, (fun b h => by
  have h : kd = .D b := h
  rcases hk with h2 | ⟨b2, h2, h3⟩
  ·rw [h2] at h; cases h
  ·rw [h2] at h; cases h; exact h3), (fun r h => by
  have h : kd = .R r := h
  rcases hk with h2 | ⟨b2, h2, h3⟩
  ·rw [h2] at h; cases h
  ·rw [h2] at h; cases h), (fun s r w h => by cases h)⟩
theorem mlS_okE (num : Nat) (kd : Kd) (s r : Nat) (hn : num < 100) (hk : kd = .N ∨ ∃ b, kd = .D b ∧ b < num) (hs : 1 ≤ s ∧ s ≤ 100) (hr : r = 0 ∨ r = 1 ∨ r = 6 ∨ r = 8) (h8 : r = 8 → ∃ b, kd = .D b) : MlOk (mlS num kd (some (s, r, authV 0))) :=
 have h := mlS_ok num kd hn hk
 ⟨vok0, (by show 1 ≤ 9; omega), (by show 9 < 10; omega), hn, h.d, h.rr, fun s' r' w' e => by
  obtain ⟨rfl, rfl, rfl⟩ : s = s' ∧ r = r' ∧ authV 0 = w' := by
   have e : some (s, r, authV 0) = some (s', r', w') := e
   simpa using e
  exact ⟨hs.1, hs.2, hr, vok0, h8, .inl ⟨rfl, n00⟩⟩⟩
theorem mlS_own (num : Nat) (kd : Kd) (en : Option (Nat × Nat × Bs)) (hk : kd = .N ∨ ∃ b, kd = .D b) : Own0 (mlS num kd en) := ⟨rfl, hk⟩
theorem user_call (s : Int) : PCall prog 14 [.int .i64 s] (.agg (uce s []).c) := by
 have a0 : PCall prog 17 [.int .i64 0] (.agg [nmV (authN 0)]) := auth_call 0 (by omega)
 refine pcall_nzt (r := .agg [.str [], .str [], .int .i64 s, nmV (authN 0), .nils, .int .i64 0, .int .i64 0, .int .i64 0, .str [], .str [], .bool false, .bool false, .int .i64 0, .int .i64 0, .nils, .nils, .nils, .int .i64 0, .int .i64 0, .int .i64 0, .nils, .bool false, .nils, .nils, .str [], .str [], .nils, .nils, .nils, .str []]) ?_ rfl (.agg (by simp [Ce.c]))
 refine pcall_body func14 rfl call14 ?_ ?_
 rotate_left 1
 refine awp_slots (s' := (.int .i64 s : V) :: zJ 5) rfl ?_; dsimp only [zJ]
 ·repeat' (first | (refine Zu ?_; intro K9 h9; refine Zd ?_; ((first | refine Ap a0 ?_ | skip) <;> (refine Zf h9 ?_; clear h9 K9))) | refine Zt ?_ | refine Y8 fun K hK => ?_ | (apply hK; clear hK K) | refine Zx ?_ | clear hK K)
  simp
  exact .pure (by simp)
 ·exact .agg (by simp)
theorem signedN_call (num : Nat) (kd : Kd) (hk : kd = .N ∨ ∃ b, kd = .D b) (ok : MlOk (mlS num kd none)) (s r : Int) (hr : r < 0) : PCall prog 11 [.int .i64 num, .int .i64 kd.base, .int .i64 s, .int .i64 r] (.agg ((mlS num kd none).done 0).c) := by
 have a0 : PCall prog 17 [.int .i64 0] (.agg [nmV (authN 0)]) := auth_call 0 (by omega)
 have k0 : PCall prog 19 [.int .i64 0] (rtV (mseedS (1000 + ((0 : Nat) : Int))) 0) := ekey_call 0 (by omega)
 have hKy : (rtV (mseedS (1000 + ((0 : Nat) : Int))) 0).Pure := by unfold rtV; simp
 have hs := ml_sign _ ok 0
 have hA : (nmV (authN 0)).Pure := .sl
 have g : ¬ 0 ≤ r := by omega
 rcases hk with rfl | ⟨b, rfl⟩
 ·have hs : PCall prog 18 [.agg [.str [], .str [], nmV (authN 0), .int .i64 1, .int .i64 9, .int .i64 num, .int .i64 (-1), .str [], .bool false, .nils, .bool false, .bool false, .int .i64 0, .bool false, .nils, .nils, .str []], rtV (mseedS (1000 + ((0 : Nat) : Int))) 0, .int .i64 0] (.agg [.str ((mlS num .N none).raw 0), .str (mlS num .N none).tbs, nmV (authN 0), .int .i64 1, .int .i64 9, .int .i64 num, .int .i64 (-1), .str [], .bool false, .sl 0 [], .bool false, .bool false, .int .i64 0, .bool false, .sl 0 [], .sl 0 [], .str ((mlS num .N none).sgn 0)]) := hs
  show PCall prog 11 [.int .i64 num, .int .i64 (-1), .int .i64 s, .int .i64 r] (.agg [.str ((mlS num .N none).raw 0), .str (mlS num .N none).tbs, nmV (authN 0), .int .i64 1, .int .i64 9, .int .i64 num, .int .i64 (-1), .str [], .bool false, .sl 0 [], .bool false, .bool false, .int .i64 0, .bool false, .sl 0 [], .sl 0 [], .str ((mlS num .N none).sgn 0)])
  generalize (mlS num .N none).raw 0 = raw at *
  generalize (mlS num .N none).tbs = tbs at *
  generalize (mlS num .N none).sgn 0 = sig at *
  generalize rtV (mseedS (1000 + ((0 : Nat) : Int))) 0 = KY at *
  refine pcall_body func11 rfl call11 ?_ ?_
  rotate_left 1
  refine awp_slots (s' := (.int .i64 num : V) :: (.int .i64 (-1) : V) :: (.int .i64 s : V) :: (.int .i64 r : V) :: zJ 22) rfl ?_; dsimp only [zJ]
  ·repeat' (first | (refine Zu ?_; intro K9 h9; simp (disch := first | exact dd | fail) [g, hKy]; refine Zm ?_; ((first | refine Zc a0 ?_ | refine Zc k0 ?_ | refine Zc hs ?_ | skip) <;> (refine Zf h9 ?_; clear h9 K9))) | refine Zt ?_ | refine Y8 fun K hK => ?_ | (apply hK; clear hK K) | ((first | refine Zk (ops := #[_, _, _, _]) 0 [0, 1, 1, 0] ?_ | refine Zk 0 [] ?_); refine Zl ?_) | (refine Yb rfl ?_ ?_ <;> intro hcnd <;> (try simp at hcnd) <;> try exact dc) | refine Zx ?_ | clear hK K)
   simp
   exact .pure (by simp)
  ·exact .agg (by simp)
 ·have hs : PCall prog 18 [.agg [.str [], .str [], nmV (authN 0), .int .i64 1, .int .i64 9, .int .i64 num, .int .i64 b, .str [], .bool false, .nils, .bool false, .bool false, .int .i64 0, .bool false, .nils, .nils, .str []], rtV (mseedS (1000 + ((0 : Nat) : Int))) 0, .int .i64 0] (.agg [.str ((mlS num (.D b) none).raw 0), .str (mlS num (.D b) none).tbs, nmV (authN 0), .int .i64 1, .int .i64 9, .int .i64 num, .int .i64 b, .str [], .bool false, .sl 0 [], .bool false, .bool false, .int .i64 0, .bool false, .sl 0 [], .sl 0 [], .str ((mlS num (.D b) none).sgn 0)]) := hs
  show PCall prog 11 [.int .i64 num, .int .i64 b, .int .i64 s, .int .i64 r] (.agg [.str ((mlS num (.D b) none).raw 0), .str (mlS num (.D b) none).tbs, nmV (authN 0), .int .i64 1, .int .i64 9, .int .i64 num, .int .i64 b, .str [], .bool false, .sl 0 [], .bool false, .bool false, .int .i64 0, .bool false, .sl 0 [], .sl 0 [], .str ((mlS num (.D b) none).sgn 0)])
  generalize (mlS num (.D b) none).raw 0 = raw at *
  generalize (mlS num (.D b) none).tbs = tbs at *
  generalize (mlS num (.D b) none).sgn 0 = sig at *
  generalize rtV (mseedS (1000 + ((0 : Nat) : Int))) 0 = KY at *
  refine pcall_body func11 rfl call11 ?_ ?_
  rotate_left 1
  refine awp_slots (s' := (.int .i64 num : V) :: (.int .i64 b : V) :: (.int .i64 s : V) :: (.int .i64 r : V) :: zJ 22) rfl ?_; dsimp only [zJ]
  ·repeat' (first | (refine Zu ?_; intro K9 h9; simp (disch := first | exact dd | fail) [g, hKy]; refine Zm ?_; ((first | refine Zc a0 ?_ | refine Zc k0 ?_ | refine Zc hs ?_ | skip) <;> (refine Zf h9 ?_; clear h9 K9))) | refine Zt ?_ | refine Y8 fun K hK => ?_ | (apply hK; clear hK K) | ((first | refine Zk (ops := #[_, _, _, _]) 0 [0, 1, 1, 0] ?_ | refine Zk 0 [] ?_); refine Zl ?_) | (refine Yb rfl ?_ ?_ <;> intro hcnd <;> (try simp at hcnd) <;> try exact dc) | refine Zx ?_ | clear hK K)
   simp
   exact .pure (by simp)
  ·exact .agg (by simp)
theorem signedE_call (s r : Nat) (num : Nat) (kd : Kd) (hk : kd = .N ∨ ∃ b, kd = .D b) (ok : MlOk (mlS num kd (some (s, r, authV 0)))) : PCall prog 11 [.int .i64 num, .int .i64 kd.base, .int .i64 s, .int .i64 r] (.agg ((mlS num kd (some (s, r, authV 0))).done 0).c) := by
 have a0 : PCall prog 17 [.int .i64 0] (.agg [nmV (authN 0)]) := auth_call 0 (by omega)
 have k0 : PCall prog 19 [.int .i64 0] (rtV (mseedS (1000 + ((0 : Nat) : Int))) 0) := ekey_call 0 (by omega)
 have hKy : (rtV (mseedS (1000 + ((0 : Nat) : Int))) 0).Pure := by unfold rtV; simp
 have hs := ml_sign _ ok 0
 have hA : (nmV (authN 0)).Pure := .sl
 have g : (0 : Int) ≤ r := by omega
 rcases hk with rfl | ⟨b, rfl⟩
 ·have hs : PCall prog 18 [.agg [.str [], .str [], nmV (authN 0), .int .i64 1, .int .i64 9, .int .i64 num, .int .i64 (-1), .str [], .bool false, .nils, .bool false, .bool false, .int .i64 0, .bool false, .nils, .sl 1 [.int .i64 s, .int .i64 0, .int .i64 r, .int .i64 (-1), nmV (authN 0)], .str []], rtV (mseedS (1000 + ((0 : Nat) : Int))) 0, .int .i64 0] (.agg [.str ((mlS num .N (some (s, r, authV 0))).raw 0), .str (mlS num .N (some (s, r, authV 0))).tbs, nmV (authN 0), .int .i64 1, .int .i64 9, .int .i64 num, .int .i64 (-1), .str [], .bool false, .sl 0 [], .bool false, .bool false, .int .i64 0, .bool false, .sl 0 [], .sl 1 [.int .i64 s, .int .i64 0, .int .i64 r, .int .i64 (-1), nmV (authN 0)], .str ((mlS num .N (some (s, r, authV 0))).sgn 0)]) := hs
  show PCall prog 11 [.int .i64 num, .int .i64 (-1), .int .i64 s, .int .i64 r] (.agg [.str ((mlS num .N (some (s, r, authV 0))).raw 0), .str (mlS num .N (some (s, r, authV 0))).tbs, nmV (authN 0), .int .i64 1, .int .i64 9, .int .i64 num, .int .i64 (-1), .str [], .bool false, .sl 0 [], .bool false, .bool false, .int .i64 0, .bool false, .sl 0 [], .sl 1 [.int .i64 s, .int .i64 0, .int .i64 r, .int .i64 (-1), nmV (authN 0)], .str ((mlS num .N (some (s, r, authV 0))).sgn 0)])
  generalize (mlS num .N (some (s, r, authV 0))).raw 0 = raw at *
  generalize (mlS num .N (some (s, r, authV 0))).tbs = tbs at *
  generalize (mlS num .N (some (s, r, authV 0))).sgn 0 = sig at *
  generalize rtV (mseedS (1000 + ((0 : Nat) : Int))) 0 = KY at *
  refine pcall_body func11 rfl call11 ?_ ?_
  rotate_left 1
  refine awp_slots (s' := (.int .i64 num : V) :: (.int .i64 (-1) : V) :: (.int .i64 s : V) :: (.int .i64 r : V) :: zJ 22) rfl ?_; dsimp only [zJ]
  ·repeat' (first | refine Zz 2 ?_ | (refine Zu ?_; intro K9 h9; simp (disch := first | exact dd | fail) [g, hKy]; refine Zm ?_; ((first | refine Zc a0 ?_ | refine Zc k0 ?_ | refine Zc hs ?_ | skip) <;> (refine Zf h9 ?_; clear h9 K9))) | refine Zt ?_ | refine Y8 fun K hK => ?_ | (apply hK; clear hK K) | ((first | refine Zk (ops := #[_, _, _, _]) 0 [0, 1, 1, 0] ?_ | refine Zk 0 [] ?_); refine Zl ?_) | (refine Yb rfl ?_ ?_ <;> intro hcnd <;> (try simp at hcnd) <;> try exact dc) | refine Zx ?_ | clear hK K)
   simp
   exact .pure (by simp)
  ·exact .agg (by simp)
 ·have hs : PCall prog 18 [.agg [.str [], .str [], nmV (authN 0), .int .i64 1, .int .i64 9, .int .i64 num, .int .i64 b, .str [], .bool false, .nils, .bool false, .bool false, .int .i64 0, .bool false, .nils, .sl 1 [.int .i64 s, .int .i64 0, .int .i64 r, .int .i64 (-1), nmV (authN 0)], .str []], rtV (mseedS (1000 + ((0 : Nat) : Int))) 0, .int .i64 0] (.agg [.str ((mlS num (.D b) (some (s, r, authV 0))).raw 0), .str (mlS num (.D b) (some (s, r, authV 0))).tbs, nmV (authN 0), .int .i64 1, .int .i64 9, .int .i64 num, .int .i64 b, .str [], .bool false, .sl 0 [], .bool false, .bool false, .int .i64 0, .bool false, .sl 0 [], .sl 1 [.int .i64 s, .int .i64 0, .int .i64 r, .int .i64 (-1), nmV (authN 0)], .str ((mlS num (.D b) (some (s, r, authV 0))).sgn 0)]) := hs
  show PCall prog 11 [.int .i64 num, .int .i64 b, .int .i64 s, .int .i64 r] (.agg [.str ((mlS num (.D b) (some (s, r, authV 0))).raw 0), .str (mlS num (.D b) (some (s, r, authV 0))).tbs, nmV (authN 0), .int .i64 1, .int .i64 9, .int .i64 num, .int .i64 b, .str [], .bool false, .sl 0 [], .bool false, .bool false, .int .i64 0, .bool false, .sl 0 [], .sl 1 [.int .i64 s, .int .i64 0, .int .i64 r, .int .i64 (-1), nmV (authN 0)], .str ((mlS num (.D b) (some (s, r, authV 0))).sgn 0)])
  generalize (mlS num (.D b) (some (s, r, authV 0))).raw 0 = raw at *
  generalize (mlS num (.D b) (some (s, r, authV 0))).tbs = tbs at *
  generalize (mlS num (.D b) (some (s, r, authV 0))).sgn 0 = sig at *
  generalize rtV (mseedS (1000 + ((0 : Nat) : Int))) 0 = KY at *
  refine pcall_body func11 rfl call11 ?_ ?_
  rotate_left 1
  refine awp_slots (s' := (.int .i64 num : V) :: (.int .i64 b : V) :: (.int .i64 s : V) :: (.int .i64 r : V) :: zJ 22) rfl ?_; dsimp only [zJ]
  ·repeat' (first | refine Zz 2 ?_ | (refine Zu ?_; intro K9 h9; simp (disch := first | exact dd | fail) [g, hKy]; refine Zm ?_; ((first | refine Zc a0 ?_ | refine Zc k0 ?_ | refine Zc hs ?_ | skip) <;> (refine Zf h9 ?_; clear h9 K9))) | refine Zt ?_ | refine Y8 fun K hK => ?_ | (apply hK; clear hK K) | ((first | refine Zk (ops := #[_, _, _, _]) 0 [0, 1, 1, 0] ?_ | refine Zk 0 [] ?_); refine Zl ?_) | (refine Yb rfl ?_ ?_ <;> intro hcnd <;> (try simp at hcnd) <;> try exact dc) | refine Zx ?_ | clear hK K)
   simp
   exact .pure (by simp)
  ·exact .agg (by simp)
end Go.Proofs.YtnpndfmbkmbhbaaGreatDoor
namespace Go.Sta
open Go.VS Go.Stp Go.Der Go.Proofs.YtnpndfmbkmbhbaaGreatDoor
theorem v_nil (c : Ce) (ss : List An) (t : Int) : ofB c ss [] t = 0 := by
 have : evid c ss [] t = [] := by simp [evid, prfs]
 rw [ofB, this]
 simp [ofF, ofE, and0]
theorem v_cd {m n : Ml} (hm : Own0 m) (hn : Own0 n) (h1 : m.kd = .N) {b : Nat} (h2 : n.kd = .D b) (s t : Int) : ofB (uce s []) [anc 0] [m.done 0, n.done 0] t =
  if (((b : Int) ≤ m.num ∧ (m.num : Int) < n.num) ∧ ((n.this : Int) ≤ t ∧ t ≤ (n.next : Int)) ∧ (m.this : Int) ≤ t) then stV (vdR ((fndE (uce s []) (n.done 0)).or (fndE (uce s []) (m.done 0)))) else if ((m.this : Int) ≤ t ∧ t ≤ (m.next : Int)) then stV (vdR (fndE (uce s []) (m.done 0))) else 0 := by
 have b1 : m.kd.base = -1 := by rw [h1]; rfl
 have b2 : n.kd.base = (b : Int) := by rw [h2]; rfl
 have hb : ¬ (b : Int) = -1 := by omega
 rw [of_cd (a := m.done 0) (b := n.done 0) b1 (by show n.kd.base ≠ -1; rw [b2]; exact hb) (own_sgd hm) (own_sgd hn) (own_mask hm s) (own_ser hm hm), own_ext hm hn, own_cur, own_cur, b1, b2]
 simp only [hb, decide_true, decide_false, Bool.not_false, Bool.true_and, Bool.and_eq_true, decide_eq_true_eq]
 rfl
theorem v_c {m : Ml} (hm : Own0 m) (h1 : m.kd = .N) (s t : Int) : ofB (uce s []) [anc 0] [m.done 0] t = if ((m.this : Int) ≤ t ∧ t ≤ (m.next : Int)) then stV (vdR (fndE (uce s []) (m.done 0))) else 0 := by
 have b1 : m.kd.base = -1 := by rw [h1]; rfl
 rw [of_c (a := m.done 0) b1 (own_sgd hm) (own_mask hm s), own_cur]
 simp only [Bool.and_eq_true, decide_eq_true_eq]
theorem mask_ne {m : Ml} (hm : Own0 m) (s : Int) : maskS (uce s []) (m.done 0) ≠ 0 := by rw [own_mask hm s]; decide
theorem ev_own {m n : Ml} (hm : Own0 m) (hn : Own0 n) (h1 : m.kd = .N) (h2 : n.kd = .N) (s t : Int) (he : m.num = n.num) (tm : (m.this : Int) ≤ t ∧ t ≤ (m.next : Int)) (tn : (n.this : Int) ≤ t ∧ t ≤ (n.next : Int)) : evid (uce s []) [anc 0] [m.done 0, n.done 0] t = [((0 : Int), -1), (1, -1)] :=
 ev_cc (a := m.done 0) (b := n.done 0) (by show m.kd.base = -1; rw [h1]; rfl) (by show n.kd.base = -1; rw [h2]; rfl) (own_sgd hm) (own_sgd hn) (mask_ne hm s) (mask_ne hn s) (by rw [own_cur]; simp [tm.1, tm.2]) (by rw [own_cur]; simp [tn.1, tn.2]) (by show (m.num : Int) = n.num; rw [he])
theorem ev_max {ms : List Ml} (h : ∀ m ∈ ms, Own0 m ∧ m.kd = .N ∧ m.this = 1 ∧ m.next = 9) (s : Int) (k : Nat) (hk : k < ms.length) (hx : ∀ i (hi : i < ms.length), i ≠ k → ms[i].num < ms[k].num) : evid (uce s []) [anc 0] (ms.map (Ml.done · 0)) 5 = [((k : Int), -1)] := by
 have hl : (ms.map (Ml.done · 0)).length = ms.length := by simp
 refine evid_max k (by omega) (fun i hi => ?_) (fun i hi => ?_) (fun i hi j hj => ?_) (fun i hi => ?_) (fun i hi hik => ?_)
 ·have hm := h _ (List.getElem_mem (by omega : i < ms.length))
  have e : gi (ms.map (Ml.done · 0)) i = (ms[i]'(by omega)).done 0 := by rw [gi_get _ i hi]; simp
  unfold cmpB
  rw [e]
  have b1 : ((ms[i]'(by omega)).done 0).base = -1 := by show (ms[i]'(by omega)).kd.base = -1; rw [hm.2.1]; rfl
  simp [b1, own_sgd hm.1, mask_ne hm.1 s, hl]
  omega
 ·have hm := h _ (List.getElem_mem (by omega : i < ms.length))
  simp only [List.getElem_map]
  rw [own_cur, hm.2.2.1, hm.2.2.2]
  decide
 ·have hm := h _ (List.getElem_mem (by omega : i < ms.length))
  have hn := h _ (List.getElem_mem (by omega : j < ms.length))
  simp only [List.getElem_map]
  have b2 : (ms[j]'(by omega)).kd.base = -1 := by rw [hn.2.1]; rfl
  rw [own_ext hm.1 hn.1, b2]
  simp
 ·have hm := h _ (List.getElem_mem (by omega : i < ms.length))
  have hn := h _ (List.getElem_mem hk)
  simp only [List.getElem_map]
  exact own_ser hm.1 hn.1
 ·have := hx i (by omega) hik
  simp only [List.getElem_map]
  show ((ms[i]'(by omega)).num : Int) < (ms[k].num : Int)
  omega
end Go.Sta
namespace Go.Proofs.YtnpndfmbkmbhbaaGreatDoor
open Go.Proofs.Tryz
open Go.VS Go.Stp Go.Der Go.Sta
attribute [local irreducible] arun arunD arunU AWp aend verE wr DU.arunD
attribute [local simp] DU.gval
theorem awake28_call : PCall prog 16 [] (.bool true) := by
 have u5 : PCall prog 14 [.int .i64 5] (.agg [.str [], .str [], .int .i64 5, nmV (authN 0), .sl 0 [], .int .i64 0, .int .i64 0, .int .i64 0, .str [], .str [], .bool false, .bool false, .int .i64 0, .int .i64 0, .sl 0 [], .sl 0 [], .sl 0 [], .int .i64 0, .int .i64 0, .int .i64 0, .sl 0 [], .bool false, .sl 0 [], .sl 0 [], .str [], .str [], .sl 0 [], .sl 0 [], .sl 0 [], .str []]) := user_call 5
 have an : PCall prog 12 [.int .i64 0] (.agg [nmV (authN 0), .int .i64 0, .str (pubK 0).id, .str (pubK 0).root]) := anchor_call 0 (by omega)
 have k1 : MlOk (mlS 1 .N none) := mlS_ok 1 .N (by omega) (.inl rfl)
 have k2 : MlOk (mlS 2 .N (some (5, 1, authV 0))) := mlS_okE 2 .N 5 1 (by omega) (.inl rfl) (by omega) (by omega) (by omega)
 have k3 : MlOk (mlS 1 .N (some (5, 6, authV 0))) := mlS_okE 1 .N 5 6 (by omega) (.inl rfl) (by omega) (by omega) (by omega)
 have k4 : MlOk (mlS 2 (.D 1) (some (5, 8, authV 0))) := mlS_okE 2 (.D 1) 5 8 (by omega) (.inr ⟨1, rfl, by omega⟩) (by omega) (by omega) (fun _ => ⟨1, rfl⟩)
 have s1 : PCall prog 11 [.int .i64 1, .int .i64 (-1), .int .i64 5, .int .i64 (-1)] (.agg [.str ((mlS 1 .N none).raw 0), .str (mlS 1 .N none).tbs, nmV (authN 0), .int .i64 1, .int .i64 9, .int .i64 1, .int .i64 (-1), .str [], .bool false, .sl 0 [], .bool false, .bool false, .int .i64 0, .bool false, .sl 0 [], .sl 0 [], .str ((mlS 1 .N none).sgn 0)]) := signedN_call 1 .N (.inl rfl) k1 5 (-1) (by omega)
 have s2 : PCall prog 11 [.int .i64 2, .int .i64 (-1), .int .i64 5, .int .i64 1] (.agg [.str ((mlS 2 .N (some (5, 1, authV 0))).raw 0), .str (mlS 2 .N (some (5, 1, authV 0))).tbs, nmV (authN 0), .int .i64 1, .int .i64 9, .int .i64 2, .int .i64 (-1), .str [], .bool false, .sl 0 [], .bool false, .bool false, .int .i64 0, .bool false, .sl 0 [], .sl 1 [.int .i64 5, .int .i64 0, .int .i64 1, .int .i64 (-1), nmV (authN 0)], .str ((mlS 2 .N (some (5, 1, authV 0))).sgn 0)]) := signedE_call 5 1 2 .N (.inl rfl) k2
 have s3 : PCall prog 11 [.int .i64 1, .int .i64 (-1), .int .i64 5, .int .i64 6] (.agg [.str ((mlS 1 .N (some (5, 6, authV 0))).raw 0), .str (mlS 1 .N (some (5, 6, authV 0))).tbs, nmV (authN 0), .int .i64 1, .int .i64 9, .int .i64 1, .int .i64 (-1), .str [], .bool false, .sl 0 [], .bool false, .bool false, .int .i64 0, .bool false, .sl 0 [], .sl 1 [.int .i64 5, .int .i64 0, .int .i64 6, .int .i64 (-1), nmV (authN 0)], .str ((mlS 1 .N (some (5, 6, authV 0))).sgn 0)]) := signedE_call 5 6 1 .N (.inl rfl) k3
 have s4 : PCall prog 11 [.int .i64 2, .int .i64 1, .int .i64 5, .int .i64 8] (.agg [.str ((mlS 2 (.D 1) (some (5, 8, authV 0))).raw 0), .str (mlS 2 (.D 1) (some (5, 8, authV 0))).tbs, nmV (authN 0), .int .i64 1, .int .i64 9, .int .i64 2, .int .i64 1, .str [], .bool false, .sl 0 [], .bool false, .bool false, .int .i64 0, .bool false, .sl 0 [], .sl 1 [.int .i64 5, .int .i64 0, .int .i64 8, .int .i64 (-1), nmV (authN 0)], .str ((mlS 2 (.D 1) (some (5, 8, authV 0))).sgn 0)]) := signedE_call 5 8 2 (.D 1) (.inr ⟨1, rfl⟩) k4
 have w1 : ∀ s ∈ [anc 0], WAn s := fun s hs => by simp at hs; subst hs; exact anc_w 0
 have p0 : PCall prog 13 [.agg [.str [], .str [], .int .i64 5, nmV (authN 0), .sl 0 [], .int .i64 0, .int .i64 0, .int .i64 0, .str [], .str [], .bool false, .bool false, .int .i64 0, .int .i64 0, .sl 0 [], .sl 0 [], .sl 0 [], .int .i64 0, .int .i64 0, .int .i64 0, .sl 0 [], .bool false, .sl 0 [], .sl 0 [], .str [], .str [], .sl 0 [], .sl 0 [], .sl 0 [], .str []], .sl 1 [nmV (authN 0), .int .i64 0, .str (pubK 0).id, .str (pubK 0).root], .nils, .int .i64 5] (.int .i64 0) := by
  have h := of_call (uce 5 []) [anc 0] [] 5 (uce_w 5 (by simp) (by simp)) (by simp) w1 (by simp)
  rw [v_nil] at h
  exact pcall_nza h rfl
 have p1 : PCall prog 13 [.agg [.str [], .str [], .int .i64 5, nmV (authN 0), .sl 0 [], .int .i64 0, .int .i64 0, .int .i64 0, .str [], .str [], .bool false, .bool false, .int .i64 0, .int .i64 0, .sl 0 [], .sl 0 [], .sl 0 [], .int .i64 0, .int .i64 0, .int .i64 0, .sl 0 [], .bool false, .sl 0 [], .sl 0 [], .str [], .str [], .sl 0 [], .sl 0 [], .sl 0 [], .str []], .sl 1 [nmV (authN 0), .int .i64 0, .str (pubK 0).id, .str (pubK 0).root], .sl 2 [.str ((mlS 1 .N none).raw 0), .str (mlS 1 .N none).tbs, nmV (authN 0), .int .i64 1, .int .i64 9, .int .i64 1, .int .i64 (-1), .str [], .bool false, .sl 0 [], .bool false, .bool false, .int .i64 0, .bool false, .sl 0 [], .sl 0 [], .str ((mlS 1 .N none).sgn 0), .str ((mlS 2 .N (some (5, 1, authV 0))).raw 0), .str (mlS 2 .N (some (5, 1, authV 0))).tbs, nmV (authN 0), .int .i64 1, .int .i64 9, .int .i64 2, .int .i64 (-1), .str [], .bool false, .sl 0 [], .bool false, .bool false, .int .i64 0, .bool false, .sl 0 [], .sl 1 [.int .i64 5, .int .i64 0, .int .i64 1, .int .i64 (-1), nmV (authN 0)], .str ((mlS 2 .N (some (5, 1, authV 0))).sgn 0)], .int .i64 5] (.int .i64 2) := by
  have h := of_call (uce 5 []) [anc 0] [(mlS 1 .N none).done 0, (mlS 2 .N (some (5, 1, authV 0))).done 0] 5 (uce_w 5 (by simp) (by simp; exact ⟨done_wst k1 0, done_wst k2 0⟩)) (by simp) w1 (by simp)
  have hev := ev_max (ms := [(mlS 1 .N none), (mlS 2 .N (some (5, 1, authV 0)))]) (by simp; exact ⟨⟨mlS_own 1 .N _ (.inl rfl), rfl, rfl, rfl⟩, mlS_own 2 .N _ (.inl rfl), rfl, rfl, rfl⟩) 5 1 (by simp) (fun i hi hik => by
   match i, hi with
   | 0, _ => exact (by decide : 1 < 2)
   | 1, _ => exact absurd rfl hik)
  have hv : ofB (uce 5 []) [anc 0] [(mlS 1 .N none).done 0, (mlS 2 .N (some (5, 1, authV 0))).done 0] 5 = 2 := by
   rw [ofB, show evid (uce 5 []) [anc 0] [(mlS 1 .N none).done 0, (mlS 2 .N (some (5, 1, authV 0))).done 0] 5 = [((1 : Int), -1)] from hev, ofF1 (by exact own_mask (mlS_own 2 .N _ (.inl rfl)) 5), vd1, fnd_some (s := 5) (r := 1) (w := authV 0) rfl rfl n00]
   rfl
  rw [hv] at h
  exact h
 have p2 : PCall prog 13 [.agg [.str [], .str [], .int .i64 5, nmV (authN 0), .sl 0 [], .int .i64 0, .int .i64 0, .int .i64 0, .str [], .str [], .bool false, .bool false, .int .i64 0, .int .i64 0, .sl 0 [], .sl 0 [], .sl 0 [], .int .i64 0, .int .i64 0, .int .i64 0, .sl 0 [], .bool false, .sl 0 [], .sl 0 [], .str [], .str [], .sl 0 [], .sl 0 [], .sl 0 [], .str []], .sl 1 [nmV (authN 0), .int .i64 0, .str (pubK 0).id, .str (pubK 0).root], .sl 2 [.str ((mlS 1 .N (some (5, 6, authV 0))).raw 0), .str (mlS 1 .N (some (5, 6, authV 0))).tbs, nmV (authN 0), .int .i64 1, .int .i64 9, .int .i64 1, .int .i64 (-1), .str [], .bool false, .sl 0 [], .bool false, .bool false, .int .i64 0, .bool false, .sl 0 [], .sl 1 [.int .i64 5, .int .i64 0, .int .i64 6, .int .i64 (-1), nmV (authN 0)], .str ((mlS 1 .N (some (5, 6, authV 0))).sgn 0), .str ((mlS 2 (.D 1) (some (5, 8, authV 0))).raw 0), .str (mlS 2 (.D 1) (some (5, 8, authV 0))).tbs, nmV (authN 0), .int .i64 1, .int .i64 9, .int .i64 2, .int .i64 1, .str [], .bool false, .sl 0 [], .bool false, .bool false, .int .i64 0, .bool false, .sl 0 [], .sl 1 [.int .i64 5, .int .i64 0, .int .i64 8, .int .i64 (-1), nmV (authN 0)], .str ((mlS 2 (.D 1) (some (5, 8, authV 0))).sgn 0)], .int .i64 5] (.int .i64 1) := by
  have h := of_call (uce 5 []) [anc 0] [(mlS 1 .N (some (5, 6, authV 0))).done 0, (mlS 2 (.D 1) (some (5, 8, authV 0))).done 0] 5 (uce_w 5 (by simp) (by simp; exact ⟨done_wst k3 0, done_wst k4 0⟩)) (by simp) w1 (by simp)
  have hv : ofB (uce 5 []) [anc 0] [(mlS 1 .N (some (5, 6, authV 0))).done 0, (mlS 2 (.D 1) (some (5, 8, authV 0))).done 0] 5 = 1 := by
   rw [v_cd (mlS_own 1 .N _ (.inl rfl)) (mlS_own 2 (.D 1) _ (.inr ⟨1, rfl⟩)) rfl rfl, if_pos (by decide), fnd_some (m := (mlS 2 (.D 1) (some (5, 8, authV 0)))) (s := 5) (r := 8) (w := authV 0) rfl rfl n00]
   rfl
  rw [hv] at h
  exact h
 clear w1 k1 k2 k3 k4
 generalize (mlS 1 .N none).raw 0 = w1 at *
 generalize (mlS 1 .N none).tbs = t1 at *
 generalize (mlS 1 .N none).sgn 0 = g1 at *
 generalize (mlS 2 .N (some (5, 1, authV 0))).raw 0 = w2 at *
 generalize (mlS 2 .N (some (5, 1, authV 0))).tbs = t2 at *
 generalize (mlS 2 .N (some (5, 1, authV 0))).sgn 0 = g2 at *
 generalize (mlS 1 .N (some (5, 6, authV 0))).raw 0 = w3 at *
 generalize (mlS 1 .N (some (5, 6, authV 0))).tbs = t3 at *
 generalize (mlS 1 .N (some (5, 6, authV 0))).sgn 0 = g3 at *
 generalize (mlS 2 (.D 1) (some (5, 8, authV 0))).raw 0 = w4 at *
 generalize (mlS 2 (.D 1) (some (5, 8, authV 0))).tbs = t4 at *
 generalize (mlS 2 (.D 1) (some (5, 8, authV 0))).sgn 0 = g4 at *
 generalize (pubK 0).id = ID at *
 generalize (pubK 0).root = RT at *
 refine pcall_body func16 rfl call16 ?_ ?_
 rotate_left 1
 refine awp_slots (s' := zJ 32) rfl ?_; dsimp only [zJ]
 ·repeat' (first | refine Zz 0 ?_ | ((first | refine ZuU ?_ | (refine ZvU ?_ ?_; (focus (simp; done)))); intro K9 h9; refine Zd ?_; ((first | refine Ap u5 ?_ | refine Ap an ?_ | refine Ap s1 ?_ | refine Ap s2 ?_ | refine Ap s3 ?_ | refine Ap s4 ?_ | refine Ap p0 ?_ | refine acall_view p1 ⟨.pure (by simp), .pure .sl, view_row rfl (by simp) (by simp), .pure .int, trivial⟩ .int ?_ | refine acall_view p2 ⟨.pure (by simp), .pure .sl, view_row rfl (by simp) (by simp), .pure .int, trivial⟩ .int ?_ | skip) <;> (refine ZfU h9 ?_; clear h9 K9))) | refine ZtU ?_ | refine Y8 fun K hK => ?_ | (apply hK; clear hK K) | refine ZoU ?_ | refine Zx ?_ | clear hK K)
  exact .pure .bool
 ·exact .bool
end Go.Proofs.YtnpndfmbkmbhbaaGreatDoor
