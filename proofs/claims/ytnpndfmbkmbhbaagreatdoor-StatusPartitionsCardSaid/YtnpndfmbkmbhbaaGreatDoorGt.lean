/-
 SCOPE: scopes that are the same; lists that extend one another.
 Conditions: none.
-/
import Derived.Test.YtnpndfmbkmbhbaaGreatDoorGu
import Derived.Test.YtnpndfmbkmbhbaaGreatDoorVs31
set_option maxRecDepth 100000
set_option maxHeartbeats 32000000
namespace Go.Stp
open Go.VS
def eqLB (x y : List Gn) : Bool := decide (x.length = y.length) && (x.zip y).all fun p => sameG p.1 p.2
theorem eqLB_len {x y : List Gn} (h : x.length ≠ y.length) : eqLB x y = false := by simp [eqLB, h]
theorem eqLB_true {x y : List Gn} (h : x.length = y.length) (hall : ∀ j (h1 : j < x.length) (h2 : j < y.length), sameG x[j] y[j] = true) : eqLB x y = true := by
 unfold eqLB
 rw [Bool.and_eq_true]
 refine ⟨by simpa using h, List.all_eq_true.2 fun p hp => ?_⟩
 obtain ⟨j, hj, rfl⟩ := List.getElem_of_mem hp
 simp at hj
 simpa using hall j (by omega) (by omega)
theorem eqLB_false {x y : List Gn} {j : Nat} (h1 : j < x.length) (h2 : j < y.length) (h : sameG x[j] y[j] = false) : eqLB x y = false := by
 unfold eqLB
 rw [Bool.and_eq_false_iff]
 right
 rw [List.all_eq_false]
 exact ⟨(x[j], y[j]), List.mem_iff_getElem.2 ⟨j, by simp; omega, by simp⟩, by simp [h]⟩
def sameSc (a b : Li) : Bool := if a.has = b.has then (if a.has = true then decide (a.sc.ou = b.sc.ou ∧ a.sc.oc = b.sc.oc ∧ a.sc.ind = b.sc.ind ∧ allM a.sc.reasons = allM b.sc.reasons) && eqLB a.sc.names b.sc.names else true) else false
def currentB (l : Li) (t : Int) : Bool := decide (l.this ≤ t) && decide (t ≤ l.next)
def extB (a b : Li) : Bool := decide (a.base = -1) && (!decide (b.base = -1)) && nameB a.issuer b.issuer && sameSc a b && decide (a.ak = b.ak) && decide (b.base ≤ a.number) && decide (a.number < b.number)
end Go.Stp
namespace Go.Proofs.YtnpndfmbkmbhbaaGreatDoor
open Go.Proofs.Tryz
open Go.VS Go.Stp
set_option linter.all false
theorem aeq_fl (a b c a' b' c' : Bool) : aeq prog 20 151 (.agg [.bool a, .bool b, .bool c]) (.agg [.bool a', .bool b', .bool c']) = some (decide (a = a' ∧ b = b' ∧ c = c')) := by
 cases a <;> cases b <;> cases c <;> cases a' <;> cases b' <;> cases c' <;> kernel_rfl
attribute [local irreducible] arun arunD arunU AWp aend bits DU.arunD
attribute [local simp] DU.gval
theorem flags_call (s : Sc) : PCall prog 75 [.agg s.c] (.agg [.bool s.ou, .bool s.oc, .bool s.ind]) := by
 rw [Sc.c.eq_1]
 refine pcall_body func75 rfl call75 ?_ ?_
 rotate_left 1
 refine awp_slots (s' := (.agg [gnsV s.names, .bool s.ou, .bool s.oc, .int .i64 s.reasons, .bool s.ind] : V) :: zJ 9) rfl ?_; dsimp only [zJ]
 repeat' (first | refine Zq ?_ | refine Zt ?_ | refine Y8 fun K hK => ?_ | (apply hK; clear hK K) | refine Zx ?_ | clear hK K)
 ·simp
  exact .pure (by simp)
 ·simp
theorem eqfunc_call (x y : List Gn) (hx : ∀ g ∈ x, WGk g) (hy : ∀ g ∈ y, WGk g) (hlx : x.length ≤ 65536) (hly : y.length ≤ 65536) : PCall prog 76 [gnsV x, gnsV y, .fn (.func 77) []] (.bool (eqLB x y)) := by
 have hcx := gens_at x
 have hcy := gens_at y
 have hlx2 := gns_len x
 have hly2 := gns_len y
 have hs : ∀ a ∈ x, ∀ b ∈ y, PCall prog 77 [.agg a.c, .agg b.c] (.bool (sameG a b)) := fun a ha b hb => gsame_call a b (hx a ha) (hy b hb)
 unfold gnsV
 refine pcall_body func76 rfl call76 ?_ ?_
 rotate_left 1
 refine awp_slots (s' := (.sl x.length (x.flatMap Gn.c) : V) :: (.sl y.length (y.flatMap Gn.c) : V) :: (.fn (.func 77) [] : V) :: zJ 29) rfl ?_; dsimp only [zJ]
 generalize x.flatMap Gn.c = xc at *
 generalize y.flatMap Gn.c = yc at *
 by_cases h0 : x.length = y.length
 ·repeat' (first | (refine Zu ?_; intro K9 h9; simp (disch := first | exact dd | fail) [h0]; refine Zm ?_; refine Zf h9 ?_; clear h9 K9) | refine Zt ?_ | refine Y8 fun K hK => ?_ | (apply hK; clear hK K) | (refine Yb rfl ?_ ?_ <;> intro hcnd <;> (try simp at hcnd) <;> try exact dc) | refine Zx ?_ | clear hK K)
  refine awp_loopU (α := Nat) (fun i => (some V.junk :: zN 5 (zS 9 (zN 2 (some (V.int .i64 i) :: zS 14 []))))) (fun i => []) (fun i => i ≤ y.length ∧ ∀ j (h1 : j < x.length) (h2 : j < y.length), j < i → sameG x[j] y[j] = true) (fun i => y.length - i) 0 ⟨by omega, fun j _ _ h => by omega⟩ ?_ ?_
  ·dsimp only [ups, zN, zS]
   exact Yr [] (by simp [rowsOver, rowRen_live, rens_pures])
  rintro i ⟨hi, hall⟩ KL hL
  dsimp only [ups, zN, zS]
  rcases Nat.lt_or_ge i y.length with hi | hi
  ·have hix : i < x.length := by omega
   have hstep : sameG x[i] y[i] = true → ∀ j (h1 : j < x.length) (h2 : j < y.length), j < i + 1 → sameG x[j] y[j] = true := fun hq j h1 h2 h => by
    rcases Nat.lt_or_ge j i with h3 | h3
    ·exact hall j h1 h2 h3
    ·obtain rfl : j = i := by omega
     exact hq
   have hbad : sameG x[i] y[i] = false → eqLB x y = false := eqLB_false hix hi
   have hs := hs x[i] (List.getElem_mem hix) y[i] (List.getElem_mem hi)
   have hgx := hcx i hix
   have hgy := hcy i hi
   obtain ⟨a, ha⟩ : ∃ a, x[i] = a := ⟨_, rfl⟩
   obtain ⟨b, hb⟩ : ∃ b, y[i] = b := ⟨_, rfl⟩
   rw [ha, hb] at hs hstep hbad
   rw [ha] at hgx
   rw [hb] at hgy
   rw [show a.c = [.int .i64 a.kind, .str a.text, nmV a.name] from rfl] at hs hgx
   rw [show b.c = [.int .i64 b.kind, .str b.text, nmV b.name] from rfl] at hs hgy
   clear hcx hcy
   cases h1 : sameG a b
   ·rw [h1] at hs
    repeat' (first | (refine Zu ?_; intro K9 h9; simp (disch := first | exact dd | fail) [h0, hgx, hgy]; refine Zm ?_; ((first | refine Ap hs ?_ | skip) <;> (refine Zf h9 ?_; clear h9 K9))) | refine Zt ?_ | refine Y8 fun K hK => ?_ | (apply hK; clear hK K) | (refine Yb rfl ?_ ?_ <;> intro hcnd <;> (try simp at hcnd) <;> try exact dc) | refine Zx ?_ | clear hK K)
    rw [hbad h1]
    exact .pure .bool
   ·rw [h1] at hs
    repeat' (first | (refine Zu ?_; intro K9 h9; simp (disch := first | exact dd | fail) [h0, hgx, hgy]; refine Zm ?_; ((first | refine Ap hs ?_ | skip) <;> (refine Zf h9 ?_; clear h9 K9))) | refine Zt ?_ | refine Y8 fun K hK => ?_ | (apply hK; clear hK K) | (refine Yb rfl ?_ ?_ <;> intro hcnd <;> (try simp at hcnd) <;> try exact dc) | refine Zx ?_ | clear hK K)
    refine hL (i + 1) _ _ ⟨by omega, hstep h1⟩ (by omega) ?_
    exact Yr [] (by simp [rowsOver, rowRen_live, rens_pures])
  ·repeat' (first | (refine Zu ?_; intro K9 h9; simp (disch := first | exact dd | fail) [h0]; refine Zm ?_; refine Zf h9 ?_; clear h9 K9) | refine Zt ?_ | refine Y8 fun K hK => ?_ | (apply hK; clear hK K) | (refine Yb rfl ?_ ?_ <;> intro hcnd <;> (try simp at hcnd) <;> try exact dc) | refine Zx ?_ | clear hK K)
   rw [eqLB_true h0 fun j h1 h2 => hall j h1 h2 (by omega)]
   exact .pure .bool
 ·have h0' : ¬ (x.length : Int) = y.length := by omega
  repeat' (first | (refine Zu ?_; intro K9 h9; simp (disch := first | exact dd | fail) [h0, h0']; refine Zm ?_; refine Zf h9 ?_; clear h9 K9) | refine Zt ?_ | refine Y8 fun K hK => ?_ | (apply hK; clear hK K) | (refine Yb rfl ?_ ?_ <;> intro hcnd <;> (try simp at hcnd) <;> try exact dc) | refine Zx ?_ | clear hK K)
  rw [eqLB_len h0]
  exact .pure .bool
 exact .bool

theorem same_sc_call (a b : Li) (ha : WLk a) (hb : WLk b) : PCall prog 42 [.agg a.c, .agg b.c] (.bool (sameSc a b)) := by
 have f1 : PCall prog 75 [.agg [gnsV a.sc.names, .bool a.sc.ou, .bool a.sc.oc, .int .i64 a.sc.reasons, .bool a.sc.ind]] _ := flags_call a.sc
 have f2 : PCall prog 75 [.agg [gnsV b.sc.names, .bool b.sc.ou, .bool b.sc.oc, .int .i64 b.sc.reasons, .bool b.sc.ind]] _ := flags_call b.sc
 have m1 := all_call a.sc.reasons
 have m2 := all_call b.sc.reasons
 have he := eqfunc_call a.sc.names b.sc.names ha.names hb.names ha.few hb.few
 have hsp : sameSc a b = if a.has = b.has then (if a.has = true then decide (a.sc.ou = b.sc.ou ∧ a.sc.oc = b.sc.oc ∧ a.sc.ind = b.sc.ind ∧ allM a.sc.reasons = allM b.sc.reasons) && eqLB a.sc.names b.sc.names else true) else false := rfl
 rw [hsp, Li.c.eq_1, Li.c.eq_1]
 clear hsp ha hb
 generalize allM a.sc.reasons = ma at *
 generalize allM b.sc.reasons = mb at *
 generalize eqLB a.sc.names b.sc.names = E at *
 refine pcall_body func42 rfl call42 ?_ ?_
 rotate_left 1
 refine awp_slots (s' := (.agg [.str a.raw, .str a.tbs, nmV a.issuer, .int .i64 a.this, .int .i64 a.next, .int .i64 a.number, .int .i64 a.base, .str a.ak, .bool a.has, gnsV a.sc.names, .bool a.sc.ou, .bool a.sc.oc, .int .i64 a.sc.reasons, .bool a.sc.ind, ptsV a.fresh, ensV a.entries, .str a.sig] : V) :: (.agg [.str b.raw, .str b.tbs, nmV b.issuer, .int .i64 b.this, .int .i64 b.next, .int .i64 b.number, .int .i64 b.base, .str b.ak, .bool b.has, gnsV b.sc.names, .bool b.sc.ou, .bool b.sc.oc, .int .i64 b.sc.reasons, .bool b.sc.ind, ptsV b.fresh, ensV b.entries, .str b.sig] : V) :: zJ 40) rfl ?_; dsimp only [zJ]
 generalize a.has = ah at *
 generalize b.has = bh at *
 by_cases hh : ah = bh
 ·subst hh
  rw [if_pos rfl]
  cases ah
  ·repeat' (first | refine ZrD ?_ | refine ZtD ?_ | refine Y8 fun K hK => ?_ | (apply hK; clear hK K) | ((first | refine DU.Zk 0 [0,0,0,0,0,0,1,0,0,1,0,0,0,0,0,1,0,0,0,1,0,0,0,0,0,0,0,0,0,1,0,0,0] ?_ | refine DU.Zk 0 [] ?_); refine Zl ?_) | (refine Yb rfl ?_ ?_ <;> intro hcnd <;> (try simp at hcnd) <;> try exact dc) | refine ZoD ?_ | refine Zx ?_ | clear hK K)
   exact .pure .bool
  ·by_cases hf : a.sc.ou = b.sc.ou ∧ a.sc.oc = b.sc.oc ∧ a.sc.ind = b.sc.ind
   ·have hq := aeq_fl a.sc.ou a.sc.oc a.sc.ind b.sc.ou b.sc.oc b.sc.ind
    have hf' : (decide (a.sc.ou = b.sc.ou ∧ a.sc.oc = b.sc.oc ∧ a.sc.ind = b.sc.ind)) = true := by simpa using hf
    rw [hf'] at hq
    by_cases hm : ma = mb
    ·subst hm
     repeat' (first | ((first | refine Zu ?_ | (refine Zv ?_ ?_; (focus (simp [hq]; done)))); intro K9 h9; simp (disch := first | exact dd | fail) [hq]; refine Zm ?_; ((first | refine ⟨_, f1, ?_⟩ | refine ⟨_, f2, ?_⟩ | refine ⟨_, m1, ?_⟩ | refine ⟨_, m2, ?_⟩ | refine ⟨_, he, ?_⟩ | skip) <;> (refine Zf h9 ?_; clear h9 K9))) | refine Zt ?_ | refine Y8 fun K hK => ?_ | (apply hK; clear hK K) | ((first | refine Zk 0 [0,0,0,0,0,0,1,0,0,1,0,0,0,0,0,1,0,0,0,1,0,0,0,0,0,0,0,0,0,1,0,0,0] ?_ | refine Zk 0 [] ?_); refine Zl ?_) | (refine Yb rfl ?_ ?_ <;> intro hcnd <;> (try simp at hcnd) <;> try exact dc) | (refine Zn ?_ ?_; (focus (simp [hq]; done)); refine Zs ?_) | refine Zx ?_ | clear hK K)
     simp [hf]
     exact .pure .bool
    ·repeat' (first | ((first | refine Zu ?_ | (refine Zv ?_ ?_; (focus (simp [hq, hm]; done)))); intro K9 h9; simp (disch := first | exact dd | fail) [hq, hm]; refine Zm ?_; ((first | refine ⟨_, f1, ?_⟩ | refine ⟨_, f2, ?_⟩ | refine ⟨_, m1, ?_⟩ | refine ⟨_, m2, ?_⟩ | refine ⟨_, he, ?_⟩ | skip) <;> (refine Zf h9 ?_; clear h9 K9))) | refine Zt ?_ | refine Y8 fun K hK => ?_ | (apply hK; clear hK K) | ((first | refine Zk 0 [0,0,0,0,0,0,1,0,0,1,0,0,0,0,0,1,0,0,0,1,0,0,0,0,0,0,0,0,0,1,0,0,0] ?_ | refine Zk 0 [] ?_); refine Zl ?_) | (refine Yb rfl ?_ ?_ <;> intro hcnd <;> (try simp at hcnd) <;> try exact dc) | (refine Zn ?_ ?_; (focus (simp [hq, hm]; done)); refine Zs ?_) | refine Zx ?_ | clear hK K)
     simp [hf, hm]
     exact .pure .bool
   ·have hq := aeq_fl a.sc.ou a.sc.oc a.sc.ind b.sc.ou b.sc.oc b.sc.ind
    have hf' : (decide (a.sc.ou = b.sc.ou ∧ a.sc.oc = b.sc.oc ∧ a.sc.ind = b.sc.ind)) = false := by simpa using hf
    rw [hf'] at hq
    repeat' (first | ((first | refine ZuD ?_ | (refine ZvD ?_ ?_; (focus (simp [hq]; done)))); intro K9 h9; simp (disch := first | exact dd | fail) [hq]; refine Zm ?_; ((first | refine ⟨_, f1, ?_⟩ | refine ⟨_, f2, ?_⟩ | refine ⟨_, m1, ?_⟩ | refine ⟨_, m2, ?_⟩ | refine ⟨_, he, ?_⟩ | skip) <;> (refine ZfD h9 ?_; clear h9 K9))) | refine ZtD ?_ | refine Y8 fun K hK => ?_ | (apply hK; clear hK K) | ((first | refine DU.Zk 0 [0,0,0,0,0,0,1,0,0,1,0,0,0,0,0,1,0,0,0,1,0,0,0,0,0,0,0,0,0,1,0,0,0] ?_ | refine DU.Zk 0 [] ?_); refine Zl ?_) | (refine Yb rfl ?_ ?_ <;> intro hcnd <;> (try simp at hcnd) <;> try exact dc) | (refine ZnD ?_ ?_; (focus (simp [hq]; done)); refine ZsD ?_) | refine Zx ?_ | clear hK K)
    rw [show decide (a.sc.ou = b.sc.ou ∧ a.sc.oc = b.sc.oc ∧ a.sc.ind = b.sc.ind ∧ ma = mb) = false by simp; intro h1 h2 h3; exact absurd ⟨h1, h2, h3⟩ hf]
    simp
    exact .pure .bool
 ·rw [if_neg hh]
  have hne : (ah != bh) = true := by simpa using hh
  cases ah <;> cases bh <;> (try (exfalso; exact hh rfl))
  ·repeat' (first | refine Zr ?_ | refine Zt ?_ | refine Y8 fun K hK => ?_ | (apply hK; clear hK K) | (refine Zk 0 [] ?_; refine Zl ?_) | (refine Yb rfl ?_ ?_ <;> intro hcnd <;> (try simp at hcnd) <;> try exact dc) | refine Zo ?_ | refine Zx ?_ | clear hK K)
   exact .pure .bool
  ·repeat' (first | refine Zr ?_ | refine Zt ?_ | refine Y8 fun K hK => ?_ | (apply hK; clear hK K) | (refine Zk 0 [] ?_; refine Zl ?_) | (refine Yb rfl ?_ ?_ <;> intro hcnd <;> (try simp at hcnd) <;> try exact dc) | refine Zo ?_ | refine Zx ?_ | clear hK K)
   exact .pure .bool
 ·exact .bool
end Go.Proofs.YtnpndfmbkmbhbaaGreatDoor
