/-
 STATUS: what status.Of computes, plainly.
 Conditions: none.
-/
import Derived.Test.YtnpndfmbkmbhbaaGreatDoorGv
set_option maxRecDepth 100000
set_option maxHeartbeats 32000000
set_option linter.all false
namespace Go.Sta
open Go.VS Go.Stp Go.Proofs.YtnpndfmbkmbhbaaGreatDoor
def Li.z : Li := ⟨[], [], [], 0, 0, 0, 0, [], false, ⟨[], false, false, 0, false⟩, [], [], []⟩
def gi (ls : List Li) (i : Int) : Li := ls.getD i.toNat Li.z
def sg1 (l : Li) (s : An) : Bool := nameB s.n l.issuer && decide (verE s.k.h s.k.id s.k.root l.tbs l.sig = 0)
def sgdB (l : Li) (ss : List An) : Bool := ss.any (sg1 l)
def cmpB (c : Ce) (ss : List An) (ls : List Li) (i : Int) : Bool :=
 decide (0 ≤ i) && decide (i < ls.length) && decide ((gi ls i).base = -1) && sgdB (gi ls i) ss && !decide (maskS c (gi ls i) = 0)
def dltB (ss : List An) (ls : List Li) (t i b : Int) : Bool :=
 decide (0 ≤ i) && decide (i < ls.length) && sgdB (gi ls i) ss && extB (gi ls b) (gi ls i) && currentB (gi ls i) t && decide ((gi ls b).this ≤ t)
def usB (c : Ce) (ss : List An) (ls : List Li) (t : Int) (p : Int × Int) : Bool :=
 cmpB c ss ls p.1 && (if p.2 = -1 then currentB (gi ls p.1) t else dltB ss ls t p.2 p.1)
def nmr (ls : List Li) (p : Int × Int) : Int := if p.2 = -1 then (gi ls p.1).number else (gi ls p.2).number
def prf1 (c : Ce) (ss : List An) (ls : List Li) (t : Int) (i : Nat) (k : Nat) : List (Int × Int) :=
 ((List.range k).map fun (k : Nat) => ((i : Int), (k : Int) - 1)).filter (usB c ss ls t)
def prfI (c : Ce) (ss : List An) (ls : List Li) (t : Int) (i : Nat) : List (Int × Int) := if cmpB c ss ls i = true then prf1 c ss ls t i (ls.length + 1) else []
def prfs (c : Ce) (ss : List An) (ls : List Li) (t : Int) (n : Nat) : List (Int × Int) := (List.range n).flatMap (prfI c ss ls t)
def serB (a b : Li) : Bool := nameB a.issuer b.issuer && sameSc a b
def losB (ls : List Li) (p q : Int × Int) : Bool := decide (nmr ls p < nmr ls q) && serB (gi ls p.1) (gi ls q.1)
def evid (c : Ce) (ss : List An) (ls : List Li) (t : Int) : List (Int × Int) :=
 (prfs c ss ls t ls.length).filter fun p => !((prfs c ss ls t ls.length).any (losB ls p))
def entB (c : Ce) (e : En) : Bool := decide (e.serial = c.serial) && nameB e.issuer c.issuer
def fndE (c : Ce) (l : Li) : Option En := l.entries.find? (entB c)
def vdR : Option En → Int
 | none => 1
 | some e => if e.reason = 8 then 1 else if e.reason = 6 then 3 else 2
def vdB (c : Ce) (ls : List Li) (p : Int × Int) : Int :=
 if p.1 < 0 ∨ (ls.length : Int) ≤ p.1 ∨ p.2 < -1 ∨ (ls.length : Int) ≤ p.2 then 0
 else vdR ((if 0 ≤ p.2 then fndE c (gi ls p.2) else none).or (fndE c (gi ls p.1)))
def ofE (hold : Bool) (mask : Int) : Int := if hold = true then 3 else if bits .and .i64 mask 510 = 510 then 1 else 0
def ofF (c : Ce) (ls : List Li) : List (Int × Int) → Int → Bool → Int
 | [], mask, hold => ofE hold mask
 | p :: l, mask, hold => if vdB c ls p = 2 then 2 else ofF c ls l (bits .or .i64 mask (maskS c (gi ls p.1))) (hold || decide (vdB c ls p = 3))
def ofB (c : Ce) (ss : List An) (ls : List Li) (t : Int) : Int := ofF c ls (evid c ss ls t) 0 false
end Go.Sta
namespace Go.Sta
open Go.VS Go.Stp
theorem rg1 : List.range 1 = [0] := rfl
theorem rg2 : List.range 2 = [0, 1] := rfl
theorem rg3 : List.range 3 = [0, 1, 2] := rfl
theorem gi0 (a : Li) (l : List Li) : gi (a :: l) 0 = a := rfl
theorem gi1 (a b : Li) (l : List Li) : gi (a :: b :: l) 1 = b := rfl
theorem prfs_cc {c : Ce} {ss : List An} {a b : Li} {t : Int} (ha : a.base = -1) (hb : b.base = -1) (sa : sgdB a ss = true) (sb : sgdB b ss = true) (ma : maskS c a ≠ 0) (mb : maskS c b ≠ 0)
  (ca : currentB a t = true) (cb : currentB b t = true) : prfs c ss [a, b] t 2 = [(0, -1), (1, -1)] := by
 have e1 : extB a b = false := by unfold extB; simp [hb]
 have e2 : extB b a = false := by unfold extB; simp [ha]
 have e3 : extB a a = false := by unfold extB; simp [ha]
 have e4 : extB b b = false := by unfold extB; simp [hb]
 simp [prfs, prfI, prf1, rg2, rg3, cmpB, usB, dltB, gi0, gi1, ha, hb, sa, sb, ma, mb, ca, cb, e1, e2, e3, e4]
theorem prfs_cd {c : Ce} {ss : List An} {a b : Li} {t : Int} (ha : a.base = -1) (hb : b.base ≠ -1) (sa : sgdB a ss = true) (sb : sgdB b ss = true) (ma : maskS c a ≠ 0) :
  prfs c ss [a, b] t 2 = (if currentB a t = true then [(0, -1)] else []) ++ (if extB a b = true ∧ currentB b t = true ∧ a.this ≤ t then [(0, 1)] else []) := by
 have e3 : extB a a = false := by unfold extB; simp [ha]
 cases h1 : currentB a t <;> cases h2 : extB a b <;> cases h3 : currentB b t <;> by_cases h4 : a.this ≤ t <;>
  simp [prfs, prfI, prf1, rg2, rg3, cmpB, usB, dltB, gi0, gi1, ha, hb, sa, sb, ma, e3, h1, h2, h3, h4]
theorem prfs_c {c : Ce} {ss : List An} {a : Li} {t : Int} (ha : a.base = -1) (sa : sgdB a ss = true) (ma : maskS c a ≠ 0) :
  prfs c ss [a] t 1 = if currentB a t = true then [(0, -1)] else [] := by
 have e3 : extB a a = false := by unfold extB; simp [ha]
 cases h1 : currentB a t <;> simp [prfs, prfI, prf1, rg1, rg2, cmpB, usB, dltB, gi0, ha, sa, ma, e3, h1]
end Go.Sta
namespace Go.Sta
open Go.VS Go.Stp
theorem en_len (e : En) : e.c.length = 5 := rfl
theorem ens_len (l : List En) : (l.flatMap En.c).length = l.length * 5 := flat_len en_len l
theorem ens_at (l : List En) (i : Nat) (h : i < l.length) : ((l.flatMap En.c).drop (i * 5)).take 5 = l[i].c := flat_at en_len l i h
def plcI (l : List En) (n : Nm) (s : Int) : Int := findI (fun e => decide (e.serial = s) && nameB e.issuer n) l
def WEn (l : List En) : Prop := l.length ≤ 65536 ∧ ∀ e ∈ l, WN e.issuer
end Go.Sta
namespace Go.Proofs.YtnpndfmbkmbhbaaGreatDoor
open Go.Proofs.Tryz
open Go.VS Go.Stp Go.Sta
attribute [local irreducible] arun arunD arunU AWp aend
theorem place_call (l : List En) (n : Nm) (s : Int) (hl : WEn l) (hn : WN n) : PCall prog 64 [ensV l, .agg [nmV n], .int .i64 s] (.int .i64 (plcI l n s)) := by
 have hcl := ens_len l
 have hat := ens_at l
 obtain ⟨hl1, hl2⟩ := hl
 have hfi : ∀ i (hi : i < l.length), (decide (l[i].serial = s) && nameB l[i].issuer n) = true → (∀ j (h : j < l.length), j < i → (decide (l[j].serial = s) && nameB l[j].issuer n) = false) → plcI l n s = i := fun i hi h h2 => findI_some hi h h2
 have hno : (∀ j (h : j < l.length), (decide (l[j].serial = s) && nameB l[j].issuer n) = false) → plcI l n s = -1 := fun h => findI_none h
 rw [show ensV l = .sl l.length (l.flatMap En.c) from rfl]
 refine pcall_body func64 rfl call64 ?_ ?_
 rotate_left 1
 refine awp_slots (s' := (.sl l.length (l.flatMap En.c) : V) :: (.agg [nmV n] : V) :: (.int .i64 s : V) :: zJ 25) rfl ?_; dsimp only [zJ]
 ·repeat' (first | refine Zr ?_ | refine Zt ?_ | refine Y8 fun K hK => ?_ | (apply hK; clear hK K) | (refine Yb rfl ?_ ?_ <;> intro hcnd <;> (try simp at hcnd) <;> try exact dc) | refine Zo ?_ | refine Zx ?_ | clear hK K)
  refine awp_loopU (α := Nat) (fun i => (zS 2 (zN 4 (zS 3 (zN 2 (some (V.int .i64 i) :: zS 16 [])))))) (fun i => [.live [nmV n]]) (fun i => i ≤ l.length ∧ ∀ j (h : j < l.length), j < i → (decide (l[j].serial = s) && nameB l[j].issuer n) = false) (fun i => l.length - i) 0 ⟨by omega, fun j _ h => by omega⟩ ?_ ?_
  ·dsimp only [ups, zN, zS]
   exact Yr [some 0] (by simp [rowsOver, rowRen_live, rens_pures])
  rintro i ⟨hi, hall⟩ KL hL
  dsimp only [ups, zN, zS]
  rcases Nat.lt_or_ge i l.length with hi | hi
  ·have ha := hat i hi
   have hw := hl2 _ (List.getElem_mem hi)
   have hf := hfi i hi
   have hstep : (decide (l[i].serial = s) && nameB l[i].issuer n) = false → i + 1 ≤ l.length ∧ ∀ j (h : j < l.length), j < i + 1 → (decide (l[j].serial = s) && nameB l[j].issuer n) = false := fun hb => ⟨by omega, fun j hj h => by
    rcases Nat.lt_or_ge j i with h3 | h3
    ·exact hall j hj h3
    ·obtain rfl : j = i := by omega
     exact hb⟩
   obtain ⟨x, hxx⟩ : ∃ x, l[i] = x := ⟨_, rfl⟩
   rw [hxx] at ha hw hf hstep
   have hm := dmatch_call x.issuer n hw hn
   generalize l.flatMap En.c = C at *
   unfold En.c at ha
   generalize nameB x.issuer n = b at *
   by_cases h1 : x.serial = s
   ·rw [h1] at ha
    cases b
    ·repeat' (first | ((first | refine Zu ?_ | (refine Zv ?_ ?_; (focus (simp [ha, hcl]; done)))); intro K9 h9; simp (disch := first | exact dd | fail) [ha, hcl]; refine Zm ?_; ((first | refine Ap hm ?_ | skip) <;> (refine Zf h9 ?_; clear h9 K9))) | refine Zt ?_ | refine Y8 fun K hK => ?_ | (apply hK; clear hK K) | (refine Yb rfl ?_ ?_ <;> intro hcnd <;> (try simp at hcnd) <;> try exact dc) | (refine Zn ?_ ?_; (focus (simp [ha, hcl]; done)); refine Zs ?_) | refine Zx ?_ | clear hK K)
     refine hL (i + 1) _ _ (hstep (by simp)) (by omega) ?_
     exact Yr [some 0] (by simp [rowsOver, rowRen_live, rens_pures])
    ·have hr := hf (by simp [h1]) hall
     repeat' (first | ((first | refine Zu ?_ | (refine Zv ?_ ?_; (focus (simp [ha, hcl]; done)))); intro K9 h9; simp (disch := first | exact dd | fail) [ha, hcl]; refine Zm ?_; ((first | refine Ap hm ?_ | skip) <;> (refine Zf h9 ?_; clear h9 K9))) | refine Zt ?_ | refine Y8 fun K hK => ?_ | (apply hK; clear hK K) | (refine Yb rfl ?_ ?_ <;> intro hcnd <;> (try simp at hcnd) <;> try exact dc) | (refine Zn ?_ ?_; (focus (simp [ha, hcl]; done)); refine Zs ?_) | refine Zx ?_ | clear hK K)
     rw [hr]
     exact .pure .int
   ·repeat' (first | ((first | refine ZuU ?_ | (refine ZvU ?_ ?_; (focus (simp [ha, hcl, h1]; done)))); intro K9 h9; simp (disch := first | exact dd | fail) [ha, hcl, h1]; refine Zm ?_; ((first | refine Ap hm ?_ | skip) <;> (refine ZfU h9 ?_; clear h9 K9))) | refine ZtU ?_ | refine Y8 fun K hK => ?_ | (apply hK; clear hK K) | (refine Yb rfl ?_ ?_ <;> intro hcnd <;> (try simp at hcnd) <;> try exact dc) | (refine ZnU ?_ ?_; (focus (simp [ha, hcl, h1]; done)); refine ZsU ?_) | refine Zx ?_ | clear hK K)
    refine hL (i + 1) _ _ (hstep (by simp [h1])) (by omega) ?_
    exact Yr [some 0] (by simp [rowsOver, rowRen_live, rens_pures])
  ·have hr := hno fun j hj => hall j hj (by omega)
   repeat' (first | refine Zr ?_ | refine Zt ?_ | refine Y8 fun K hK => ?_ | (apply hK; clear hK K) | (refine Yb rfl ?_ ?_ <;> intro hcnd <;> (try simp at hcnd) <;> try exact dc) | refine Zo ?_ | refine Zx ?_ | clear hK K)
   rw [hr]
   exact .pure .int
 ·exact .int
end Go.Proofs.YtnpndfmbkmbhbaaGreatDoor
namespace Go.Sta
open Go.VS Go.Stp
theorem map_one {α : Type} (f : Nat → α) (p : α → Bool) (n : Nat) (h0 : p (f 0) = true) (h : ∀ k, k < n → p (f (k + 1)) = false) : ((List.range (n + 1)).map f).filter p = [f 0] := by
 rw [List.range_succ_eq_map, List.map_cons, List.filter_cons_of_pos h0, List.map_map, List.filter_eq_nil_iff.2]
 intro a ha
 obtain ⟨k, hk, rfl⟩ := List.mem_map.1 ha
 have := h k (List.mem_range.1 hk)
 simp only [Function.comp_apply, Nat.succ_eq_add_one, this]
 decide
theorem gi_get (ls : List Li) (i : Nat) (h : i < ls.length) : gi ls i = ls[i] := by simp [gi, List.getD_eq_getElem?_getD, h]
theorem prfI_one {c : Ce} {ss : List An} {ls : List Li} {t : Int} {i : Nat} (hi : i < ls.length) (hc : cmpB c ss ls i = true) (hcur : currentB ls[i] t = true) (hx : ∀ k (hk : k < ls.length), extB ls[i] ls[k] = false) : prfI c ss ls t i = [((i : Int), -1)] := by
 unfold prfI prf1
 rw [if_pos hc, map_one]
 ·simp
 ·simp [usB, hc, gi_get ls i hi, hcur]
 ·intro k hk
  have e : (((k + 1 : Nat) : Int) - 1) = (k : Int) := by omega
  have e2 : ¬ (k : Int) = -1 := by omega
  simp only [e, usB, dltB, gi_get ls i hi, gi_get ls k hk, hx k hk, e2, if_false]
  simp
theorem prfs_all {c : Ce} {ss : List An} {ls : List Li} {t : Int} {n : Nat} (h : ∀ i, i < n → prfI c ss ls t i = [((i : Int), -1)]) : prfs c ss ls t n = (List.range n).map fun (i : Nat) => ((i : Int), (-1 : Int)) := by
 unfold prfs
 induction n with
 | zero => rfl
 | succ n ih => rw [List.range_succ, List.flatMap_append, List.map_append, ih (fun i hi => h i (by omega))]; simp [h n (by omega)]
theorem range_one (n k : Nat) (hk : k < n) (p : Nat → Bool) (hp : p k = true) (hn : ∀ i, i < n → i ≠ k → p i = false) : (List.range n).filter p = [k] := by
 induction n with
 | zero => omega
 | succ n ih =>
  rw [List.range_succ, List.filter_append]
  rcases Nat.lt_or_ge k n with h | h
  ·rw [ih h (fun i hi hik => hn i (by omega) hik)]
   simp [hn n (by omega) (by omega)]
  ·obtain rfl : k = n := by omega
   rw [List.filter_eq_nil_iff.2 (fun i hi => by have := List.mem_range.1 hi; simp [hn i (by omega) (by omega)])]
   simp [hp]
theorem evid_max {c : Ce} {ss : List An} {ls : List Li} {t : Int} (k : Nat) (hk : k < ls.length) (hc : ∀ i, i < ls.length → cmpB c ss ls i = true) (hcur : ∀ i (hi : i < ls.length), currentB ls[i] t = true)
  (hx : ∀ i (hi : i < ls.length) k (hk : k < ls.length), extB ls[i] ls[k] = false) (hs : ∀ i (hi : i < ls.length), serB ls[i] ls[k] = true) (hm : ∀ i (hi : i < ls.length), i ≠ k → ls[i].number < ls[k].number) : evid c ss ls t = [((k : Int), -1)] := by
 have hp := prfs_all (c := c) (ss := ss) (ls := ls) (t := t) (n := ls.length) fun i hi => prfI_one hi (hc i hi) (hcur i hi) (hx i hi)
 unfold evid
 rw [hp, List.filter_map, range_one ls.length k hk]
 ·rfl
 ·simp only [Function.comp_apply, Bool.not_eq_true', List.any_eq_false, List.mem_map, List.mem_range]
  rintro _ ⟨j, hj, rfl⟩
  have h2 : ls[j].number ≤ ls[k].number := by
   by_cases e : j = k
   ·subst e; omega
   ·have := hm j hj e; omega
  have h3 : ¬ ls[k].number < ls[j].number := by omega
  simp [losB, nmr, gi_get ls k hk, gi_get ls j hj, h3]
 ·intro i hi hik
  have h1 := hm i hi hik
  have h2 := hs i hi
  simp only [Function.comp_apply, Bool.not_eq_false', List.any_eq_true, List.mem_map, List.mem_range]
  exact ⟨_, ⟨k, hk, rfl⟩, by simp [losB, nmr, gi_get ls k hk, gi_get ls i hi, h1, h2]⟩
end Go.Sta
