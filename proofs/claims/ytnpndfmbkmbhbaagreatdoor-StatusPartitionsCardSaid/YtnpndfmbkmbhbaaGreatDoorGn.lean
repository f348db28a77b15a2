/-
 STEP: the form in which the reference compares texts.
 Conditions: none.
-/
import Derived.Test.YtnpndfmbkmbhbaaGreatDoorGj
set_option maxRecDepth 100000
set_option maxHeartbeats 32000000
namespace Go.Stp
open Go.VS
def lowS (l : List UInt8) : List UInt8 := l.map lowF
def lowT (l : List UInt8) (i : Nat) : List UInt8 := lowS (l.take i) ++ l.drop i
@[simp] theorem lowT_length (l : List UInt8) (i : Nat) : (lowT l i).length = l.length := by simp [lowT, lowS]; omega
@[simp] theorem lowS_length (l : List UInt8) : (lowS l).length = l.length := by simp [lowS]
theorem lowT_get (l : List UInt8) (i : Nat) (h : i < l.length) : (lowT l i)[i]'(by simpa using h) = l[i] := by
 have hl : (lowS (l.take i)).length = i := by simp; omega
 simp only [lowT]
 rw [List.getElem_append_right (by omega)]
 simp [hl]
theorem lowT_succ (l : List UInt8) (i : Nat) (h : i < l.length) : lowT l (i + 1) = (lowT l i).set i (lowF l[i]) := by
 have hl : (lowS (l.take i)).length = i := by simp; omega
 unfold lowT
 rw [List.set_append_right _ _ (by omega), hl, Nat.sub_self, List.take_succ_eq_append_getElem h, List.drop_eq_getElem_cons h,
  show lowS (l.take i ++ [l[i]]) = lowS (l.take i) ++ [lowF l[i]] from List.map_append, List.append_assoc]
 rfl
theorem lowT_full (l : List UInt8) : lowT l l.length = lowS l := by simp [lowT]
theorem lowT_zero (l : List UInt8) : lowT l 0 = l := by simp [lowT, lowS]
theorem bset_self (l : List UInt8) (i : Nat) (c : UInt8) (h : i < l.length) (e : l[i] = c) : l.set i c = l := by
 apply List.ext_getElem (by simp)
 intro j h1 h2
 rw [List.getElem_set]
 split
 ·rename_i h; subst h; exact e.symm
 ·rfl
theorem lowF_32 (c : UInt8) : lowF c = 32 ↔ c = 32 := by
 by_cases h : 65 ≤ c.toNat ∧ c.toNat ≤ 90
 ·constructor
  ·intro e
   have := lowF_up c h
   rw [e] at this
   simp at this
   omega
  ·rintro rfl
   simp at h
 ·rw [lowF_id c h]
def rst (s : List UInt8) (i : Nat) : List UInt8 := (fst s i).1 ++ (if (fst s i).2 then [32] else [])
theorem fst_last (s : List UInt8) : ∀ i c, (fst s i).1.getLast? = some c → c ≠ 32
 | 0, c => by simp [fst]
 | i + 1, c => by
  rcases Nat.lt_or_ge i s.length with h | h
  ·rw [fst_succ s i h]
   unfold fstep
   split
   ·exact fst_last s i c
   ·rename_i h2
    simp only [List.getLast?_append, List.getLast?_singleton, Option.some_or, Option.some.injEq]
    rintro rfl
    rw [ne_eq, lowF_32]
    exact h2
  ·have : fst s (i + 1) = fst s i := by rw [fst, fst, List.take_of_length_le h, List.take_of_length_le (by omega)]
   rw [this]; exact fst_last s i c
theorem rst_len (s : List UInt8) (i : Nat) : (rst s i).length ≤ 2 * i + 1 := by
 have := fst_len s i
 unfold rst
 split <;> simp <;> omega
theorem rst_put (s : List UInt8) (i : Nat) (h : i < s.length) (hc : s[i] ≠ 32) : rst s (i + 1) = rst s i ++ [lowF s[i]] := by
 unfold rst
 rw [fst_succ s i h, fstep, if_neg hc]
 simp only [Bool.false_eq_true, if_false, List.append_nil]
theorem rst_nil (s : List UInt8) (i : Nat) (h : i < s.length) (hc : s[i] = 32) (h0 : rst s i = []) : rst s (i + 1) = [] := by
 unfold rst at *
 rw [fst_succ s i h, fstep, if_pos hc]
 simp at h0
 simp [h0.1]
theorem rst_skip (s : List UInt8) (i : Nat) (h : i < s.length) (hc : s[i] = 32) {Y : List UInt8} (h0 : rst s i = Y ++ [32]) : rst s (i + 1) = Y ++ [32] := by
 have hl := fst_last s i
 have hg := fst_gap s i
 unfold rst at *
 rw [fst_succ s i h, fstep, if_pos hc]
 cases hgap : (fst s i).2
 ·rw [hgap] at h0
  simp at h0
  exact absurd rfl (hl 32 (by rw [h0]; simp))
 ·rw [hgap] at h0
  simp at h0
  have := hg hgap
  rw [h0] at this
  simp [h0, this]
theorem rst_gap (s : List UInt8) (i : Nat) (h : i < s.length) (hc : s[i] = 32) {Y : List UInt8} {z : UInt8} (hz : z ≠ 32) (h0 : rst s i = Y ++ [z]) : rst s (i + 1) = Y ++ [z] ++ [32] := by
 have hl := fst_last s i
 have hg := fst_gap s i
 unfold rst at *
 rw [fst_succ s i h, fstep, if_pos hc]
 cases hgap : (fst s i).2
 ·rw [hgap] at h0
  simp at h0
  simp [h0]
 ·rw [hgap] at h0
  simp only [if_true] at h0
  have := (List.append_inj' h0 rfl).2
  simp at this
  exact absurd this.symm hz
theorem rst_end (s : List UInt8) {Y : List UInt8} {z : UInt8} (h0 : rst s s.length = Y ++ [z]) : foldB s = if z = 32 then Y else Y ++ [z] := by
 have hl := fst_last s s.length
 unfold rst at h0
 unfold foldB
 cases hgap : (fst s s.length).2
 ·rw [hgap] at h0
  simp at h0
  have := hl z (by rw [h0]; simp)
  rw [if_neg this, h0]
 ·rw [hgap] at h0
  simp only [if_true] at h0
  have h2 := List.append_inj' h0 rfl
  simp at h2
  rw [if_pos h2.2.symm, h2.1]
theorem rst_end0 (s : List UInt8) (h0 : rst s s.length = []) : foldB s = [] := by
 unfold rst at h0
 simp at h0
 exact h0.1
end Go.Stp
namespace Go.Proofs.YtnpndfmbkmbhbaaGreatDoor
open Go.Proofs.Tryz
open Go.VS Go.Stp
set_option linter.all false
attribute [local irreducible] arun arunD arunU AWp aend
theorem slower_call (l : List UInt8) (hl : l.length ≤ 4294967280) : PCall prog 247 [.str l] (.str (lowS l)) := by
 refine pcall_body func247 rfl call247 ?_ ?_
 rotate_left 1
 refine awp_slots (s' := (.str l : V) :: zJ 32) rfl ?_; dsimp only [zJ]
 repeat' (first | refine Zr ?_ | refine Zt ?_ | refine Y8 fun K hK => ?_ | (apply hK; clear hK K) | (refine Yb rfl ?_ ?_ <;> intro hcnd <;> (try simp at hcnd) <;> try exact dc) | refine Zo ?_ | refine Zx ?_ | clear hK K)
 ·refine awp_countU (fun i => (some V.junk :: none :: some V.junk :: none :: zS 4 (none :: some (V.int .i64 i) :: zS 23 []))) (fun i => [.live ((lowT l i).map byteV)]) l.length ?_ fun i hi KL hL => ?_
  ·dsimp only [ups, zN, zS]
   exact Yr [some 0] (by simp [rowsOver, lowT_zero])
  dsimp only [ups, zN, zS]
  have hpl := lowT_length l i
  rcases Nat.lt_or_ge i l.length with hi | hi
  ·have hg := lowT_get l i hi
   have hs := lowT_succ l i hi
   have hc : (l[i]).toNat < 256 := UInt8.toNat_lt _
   obtain ⟨c, hcc⟩ : ∃ c, l[i] = c := ⟨_, rfl⟩
   rw [hcc] at hg hs hc
   obtain ⟨L2, hL2⟩ : ∃ L2, lowT l (i + 1) = L2 := ⟨_, rfl⟩
   rw [hL2] at hs
   by_cases a1 : (65 : Int) ≤ c.toNat <;> by_cases a2 : (c.toNat : Int) ≤ 90 <;> (try (exfalso; omega))
   ·have hu := lowF_up c ⟨by omega, by omega⟩
    have hw : (c.toNat : Int) + 32 = ((lowF c).toNat : Int) := by omega
    repeat' (first | ((first | refine Zu ?_ | (refine Zv ?_ ?_; (focus (simp [hpl, hg, a1, a2]; done)))); intro K9 h9; simp (disch := first | exact dd | fail) [hpl, hg, a1, a2]; refine Zm ?_; refine Zf h9 ?_; clear h9 K9) | refine Zt ?_ | refine Y8 fun K hK => ?_ | (apply hK; clear hK K) | (refine Yb rfl ?_ ?_ <;> intro hcnd <;> (try simp at hcnd) <;> try exact dc) | (refine Zn ?_ ?_; (focus (simp [hpl, hg, a1, a2]; done)); refine Zs ?_) | refine Zx ?_ | clear hK K)
    refine hL _ _ hi ?_
    have e : ((lowT l i).map byteV).set i (.int .u8 (lowF c).toNat) = L2.map byteV := by rw [hs, List.map_set]; rfl
    exact Le.mk [some 0] (by dsimp only [ups, zN, zS]; simp) (rowsRen_of (by simp) (by rw [hw, e, hL2]; simp [rowsOver])) (by simp)
   all_goals
    have hid := lowF_id c (by omega)
    repeat' (first | ((first | refine Zu ?_ | (refine Zv ?_ ?_; (focus (simp [hpl, hg, a1, a2]; done)))); intro K9 h9; simp (disch := first | exact dd | fail) [hpl, hg, a1, a2]; refine Zm ?_; refine Zf h9 ?_; clear h9 K9) | refine Zt ?_ | refine Y8 fun K hK => ?_ | (apply hK; clear hK K) | (refine Yb rfl ?_ ?_ <;> intro hcnd <;> (try simp at hcnd) <;> try exact dc) | (refine Zn ?_ ?_; (focus (simp [hpl, hg, a1, a2]; done)); refine Zs ?_) | refine Zx ?_ | clear hK K)
    refine hL _ _ hi ?_
    rw [hid, bset_self (lowT l i) i c (by omega) hg] at hs
    rw [hL2, hs]
    exact Yr [some 0] (by simp [rowsOver])
  ·obtain rfl : i = l.length := by omega
   rw [lowT_full]
   have hB := bytes_full (l := lowS l) (n := l.length) (by simp)
   have hB2 : List.take l.length (lowS l) = lowS l := List.take_of_length_le (by simp)
   repeat' (first | ((first | refine Zu ?_ | (refine Zv ?_ ?_; (focus (simp [hB, hB2]; done)))); intro K9 h9; simp (disch := first | exact dd | fail) [hB, hB2]; refine Zm ?_; refine Zf h9 ?_; clear h9 K9) | refine Zt ?_ | refine Y8 fun K hK => ?_ | (apply hK; clear hK K) | (refine Yb rfl ?_ ?_ <;> intro hcnd <;> (try simp at hcnd) <;> try exact dc) | (refine Zn ?_ ?_; (focus (simp [hB, hB2]; done)); refine Zs ?_) | refine Zx ?_ | clear hK K)
   exact .pure .str
 ·exact .str

theorem rfold_call (s : List UInt8) (hs : s.length ≤ 1000000) : PCall prog 240 [.str s] (.str (foldB s)) := by
 have hlow := slower_call s (by omega)
 refine pcall_body func240 rfl call240 ?_ ?_
 rotate_left 1
 refine awp_slots (s' := (.str s : V) :: zJ 55) rfl ?_; dsimp only [zJ]
 have hll := lowS_length s
 repeat' (first | ((first | refine Zu ?_ | (refine Zv ?_ ?_; (focus (simp; done)))); intro K9 h9; refine Zd ?_; ((first | refine Ap hlow ?_ | skip) <;> (refine Zf h9 ?_; clear h9 K9))) | refine Zt ?_ | refine Y8 fun K hK => ?_ | (apply hK; clear hK K) | (refine Yb rfl ?_ ?_ <;> intro hcnd <;> (try simp at hcnd) <;> try exact dc) | refine Zo ?_ | refine Zx ?_ | clear hK K)
 ·refine awp_countU (fun i => (zN 2 (some V.junk :: some (V.osl 0 0 (rst s i).length 1) :: some (V.int .i64 i) :: zS 51 []))) (fun i => [.live ((rst s i).map byteV)]) s.length ?_ fun i hi KL hL => ?_
  ·dsimp only [ups, zN, zS]
   exact Le.mk [none] (by simp [fst, rst]) (rowsRen_of (by simp) (by simp [rowsOver, fst, rst])) (by simp)
  dsimp only [ups, zN, zS]
  have hl := rst_len s i
  rcases Nat.lt_or_ge i s.length with hi | hi
  ·have hput := rst_put s i hi
   have hnil := rst_nil s i hi
   have hskip := fun h (Y : List UInt8) => rst_skip s i hi h (Y := Y)
   have hgap := fun h (Y : List UInt8) z hz => rst_gap s i hi h (Y := Y) (z := z) hz
   have hlg : (lowS s)[i]'(by simpa using hi) = lowF s[i] := by simp [lowS]
   obtain ⟨c, hcc⟩ : ∃ c, s[i] = c := ⟨_, rfl⟩
   rw [hcc] at hput hnil hskip hgap hlg
   have h32 := lowF_32 c
   obtain ⟨d, hd⟩ : ∃ d, lowF c = d := ⟨_, rfl⟩
   rw [hd] at hlg h32 hput
   have hdl : d.toNat < 256 := UInt8.toNat_lt _
   clear hd
   by_cases hc : c = 32
   ·obtain rfl : d = 32 := h32.2 hc
    rcases List.eq_nil_or_concat (rst s i) with hX | ⟨Y, z, hX⟩
    ·have := hnil hc hX
     rw [this] at hL
     rw [hX] at hl ⊢
     repeat' (first | ((first | refine ZuU ?_ | (refine ZvU ?_ ?_; (focus (simp [hlg, hll]; done)))); intro K9 h9; simp (disch := first | exact dd | fail) [hlg, hll]; refine Zm ?_; refine ZfU h9 ?_; clear h9 K9) | refine ZtU ?_ | refine Y8 fun K hK => ?_ | (apply hK; clear hK K) | (refine Yb rfl ?_ ?_ <;> intro hcnd <;> (try simp at hcnd) <;> try exact dc) | (refine ZnU ?_ ?_; (focus (simp [hlg, hll]; done)); refine ZsU ?_) | refine Zx ?_ | clear hK K)
     refine hL _ _ hi ?_
     exact Yr [some 0] (by simp [rowsOver])
    ·rw [List.concat_eq_append] at hX
     rw [hX] at hl ⊢
     simp only [List.length_append, List.length_singleton] at hl
     by_cases hz : z = 32
     ·subst hz
      have := hskip hc Y hX
      rw [this] at hL
      repeat' (first | ((first | refine ZuU ?_ | (refine ZvU ?_ ?_; (focus (simp [hlg, hll]; done)))); intro K9 h9; simp (disch := first | exact dd | fail) [hlg, hll]; refine Zm ?_; refine ZfU h9 ?_; clear h9 K9) | refine ZtU ?_ | refine Y8 fun K hK => ?_ | (apply hK; clear hK K) | (refine Yb rfl ?_ ?_ <;> intro hcnd <;> (try simp at hcnd) <;> try exact dc) | (refine ZnU ?_ ?_; (focus (simp [hlg, hll]; done)); refine ZsU ?_) | refine Zx ?_ | clear hK K)
      repeat' (first | ((first | refine ZuU ?_ | (refine ZvU ?_ ?_; (focus (simp [hlg, hll]; done)))); intro K9 h9; simp (disch := first | exact dd | fail) [hlg, hll]; refine Zm ?_; refine ZfU h9 ?_; clear h9 K9) | refine ZtU ?_ | refine Y8 fun K hK => ?_ | (apply hK; clear hK K) | (refine Yb rfl ?_ ?_ <;> intro hcnd <;> (try simp at hcnd) <;> try exact dc) | (refine ZnU ?_ ?_; (focus (simp [hlg, hll]; done)); refine ZsU ?_) | refine Zx ?_ | clear hK K)
      refine hL _ _ hi ?_
      exact Yr [some 0] (by simp [rowsOver])
     ·have := hgap hc Y z hz hX
      rw [this] at hL
      have hzi : ¬ ((z.toNat : Int) = 32) := fun e => hz (by apply UInt8.toNat_inj.1; simp; omega)
      repeat' (first | ((first | refine ZuU ?_ | (refine ZvU ?_ ?_; (focus (simp [hlg, hll, hzi]; done)))); intro K9 h9; simp (disch := first | exact dd | fail) [hlg, hll, hzi]; refine Zm ?_; refine ZfU h9 ?_; clear h9 K9) | refine ZtU ?_ | refine Y8 fun K hK => ?_ | (apply hK; clear hK K) | (refine Yb rfl ?_ ?_ <;> intro hcnd <;> (try simp at hcnd) <;> try exact dc) | (refine ZnU ?_ ?_; (focus (simp [hlg, hll, hzi]; done)); refine ZsU ?_) | refine Zx ?_ | clear hK K)
      refine hL _ _ hi ?_
      exact Yr [some 2] (by simp [rowsOver, byteV, List.take_of_length_le])
   ·have hdn : ¬ d = 32 := fun e => hc (h32.1 e)
    have hdi : ¬ ((d.toNat : Int) = 32) := fun e => hdn (by apply UInt8.toNat_inj.1; simp; omega)
    rw [hput hc] at hL
    clear hput hnil hskip hgap
    generalize rst s i = X at *
    repeat' (first | ((first | refine ZuU ?_ | (refine ZvU ?_ ?_; (focus (simp [hlg, hdi, hll]; done)))); intro K9 h9; simp (disch := first | exact dd | fail) [hlg, hdi, hll]; refine Zm ?_; refine ZfU h9 ?_; clear h9 K9) | refine ZtU ?_ | refine Y8 fun K hK => ?_ | (apply hK; clear hK K) | (refine Yb rfl ?_ ?_ <;> intro hcnd <;> (try simp at hcnd) <;> try exact dc) | (refine ZnU ?_ ?_; (focus (simp [hlg, hdi, hll]; done)); refine ZsU ?_) | refine Zx ?_ | clear hK K)
    refine hL _ _ hi ?_
    exact Yr [some 2] (by simp [rowsOver, byteV, List.take_of_length_le])
  ·obtain rfl : i = s.length := by omega
   have hend := fun (Y : List UInt8) z => rst_end s (Y := Y) (z := z)
   have hend0 := rst_end0 s
   rcases List.eq_nil_or_concat (rst s s.length) with hX | ⟨Y, z, hX⟩
   ·rw [hX] at hl ⊢
    repeat' (first | ((first | refine ZuU ?_ | (refine ZvU ?_ ?_; (focus (simp [hll]; done)))); intro K9 h9; simp (disch := first | exact dd | fail) [hll]; refine Zm ?_; refine ZfU h9 ?_; clear h9 K9) | refine ZtU ?_ | refine Y8 fun K hK => ?_ | (apply hK; clear hK K) | (refine Yb rfl ?_ ?_ <;> intro hcnd <;> (try simp at hcnd) <;> try exact dc) | (refine ZnU ?_ ?_; (focus (simp [hll]; done)); refine ZsU ?_) | refine Zx ?_ | clear hK K)
    rw [hend0 hX]
    simp
    exact .pure .str
   ·rw [List.concat_eq_append] at hX
    rw [hX] at hl ⊢
    simp only [List.length_append, List.length_singleton] at hl
    by_cases hz : z = 32
    ·subst hz
     repeat' (first | ((first | refine ZuU ?_ | (refine ZvU ?_ ?_; (focus (simp [hll]; done)))); intro K9 h9; simp (disch := first | exact dd | fail) [hll]; refine Zm ?_; refine ZfU h9 ?_; clear h9 K9) | refine ZtU ?_ | refine Y8 fun K hK => ?_ | (apply hK; clear hK K) | (refine Yb rfl ?_ ?_ <;> intro hcnd <;> (try simp at hcnd) <;> try exact dc) | (refine ZnU ?_ ?_; (focus (simp [hll]; done)); refine ZsU ?_) | refine Zx ?_ | clear hK K)
     rw [hend Y 32 hX]
     simp
     exact .pure .str
    ·have hzi : ¬ ((z.toNat : Int) = 32) := fun e => hz (by apply UInt8.toNat_inj.1; simp; omega)
     have hB : List.take (Y.length + 1) (Y.map byteV ++ [byteV z]) = Y.map byteV ++ [byteV z] := List.take_of_length_le (by simp)
     have hB2 : List.take (Y.length + 1) (Y ++ [z]) = Y ++ [z] := List.take_of_length_le (by simp)
     have hby : (∀ (c : V), (∃ a, a ∈ Y ∧ byteV a = c) ∨ c = byteV z → c.isByte = true) ↔ True := iff_true_intro (by rintro c (⟨a, -, rfl⟩ | rfl) <;> rfl)
     repeat' (first | ((first | refine ZuU ?_ | (refine ZvU ?_ ?_; (focus (simp [hll, hzi, hB, hB2, hby]; done)))); intro K9 h9; simp (disch := first | exact dd | fail) [hll, hzi, hB, hB2, hby]; refine Zm ?_; refine ZfU h9 ?_; clear h9 K9) | refine ZtU ?_ | refine Y8 fun K hK => ?_ | (apply hK; clear hK K) | (refine Yb rfl ?_ ?_ <;> intro hcnd <;> (try simp at hcnd) <;> try exact dc) | (refine ZnU ?_ ?_; (focus (simp [hll, hzi, hB, hB2, hby]; done)); refine ZsU ?_) | refine Zx ?_ | clear hK K)
     rw [hend Y z hX, if_neg hz]
     simp
     exact .pure .str
 ·exact .str

theorem rtmatch_call (a b : List UInt8) (ha : a.length ≤ 65536) (hb : b.length ≤ 65536) : PCall prog 227 [.str a, .str b] (.bool (foldB a == foldB b)) := by
 have h1 := rfold_call a (by omega)
 have h2 := rfold_call b (by omega)
 refine pcall_body func227 rfl call227 ?_ ?_
 rotate_left 1
 refine awp_slots (s' := (.str a : V) :: (.str b : V) :: zJ 8) rfl ?_; dsimp only [zJ]
 repeat' (first | (refine Zu ?_; intro K9 h9; refine Zd ?_; ((first | refine Ap h1 ?_ | refine Ap h2 ?_ | skip) <;> (refine Zf h9 ?_; clear h9 K9))) | refine Zt ?_ | refine Y8 fun K hK => ?_ | (apply hK; clear hK K) | refine Zx ?_ | clear hK K)
 ·exact .pure .bool
 ·exact .bool
end Go.Proofs.YtnpndfmbkmbhbaaGreatDoor
namespace Go.Proofs.YtnpndfmbkmbhbaaGreatDoor
open Go.Proofs.Tryz
open Go.VS Go.Stp
set_option linter.all false
attribute [local irreducible] arun arunD AWp aend
theorem rhas_call (r : List At) (a : At) (hl : r.length ≤ 65536) (hr : ∀ b ∈ r, b.v.length ≤ 65536) (ha : a.v.length ≤ 65536) : PCall prog 209 [atsV r, .agg a.c] (.bool (hasB r a)) := by
 show PCall _ _ [.sl r.length (r.flatMap At.c), .agg [.str a.t, .int .i64 a.k, .str a.v]] _
 refine pcall_body func209 rfl call209 ?_ ?_
 rotate_left 1
 refine awp_slots (s' := (.sl r.length (r.flatMap At.c) : V) :: (.agg [.str a.t, .int .i64 a.k, .str a.v] : V) :: zJ 24) rfl ?_; dsimp only [zJ]
 have hll := ats_len r
 have hcells := ats_at r
 generalize r.flatMap At.c = cells at *
 repeat' (first | refine Zr ?_ | refine Zt ?_ | refine Y8 fun K hK => ?_ | (apply hK; clear hK K) | (refine Yb rfl ?_ ?_ <;> intro hcnd <;> (try simp at hcnd) <;> try exact dc) | refine Zo ?_ | refine Zx ?_ | clear hK K)
 ·refine awp_loopU (α := Nat) (fun i => (zS 2 (zN 2 (some V.junk :: none :: some V.junk :: zN 2 (some (V.int .i64 i) :: zS 16 []))))) (fun i => [.live [.str a.t, .int .i64 a.k, .str a.v]]) (fun i => i ≤ r.length ∧ ∀ j (h : j < r.length), j < i → eqA a r[j] = false) (fun i => r.length - i) 0 ⟨by omega, fun j _ h => by omega⟩ ?_ ?_
  ·dsimp only [ups, zN, zS]
   exact Yr [some 0] (by simp [rowsOver])
  rintro i ⟨hi, hall⟩ KL hL
  dsimp only [ups, zN, zS]
  rcases Nat.lt_or_ge i r.length with hi | hi
  ·have hstep : eqA a r[i] = false → i + 1 ≤ r.length ∧ ∀ j (h : j < r.length), j < i + 1 → eqA a r[j] = false := fun hx => ⟨by omega, fun j hj h => by
    rcases Nat.lt_or_ge j i with h3 | h3
    ·exact hall j hj h3
    ·obtain rfl : j = i := by omega
     exact hx⟩
   have htrue : eqA a r[i] = true → hasB r a = true := any_true hi
   have hg := hcells i hi
   have hx : r[i].v.length ≤ 65536 := hr _ (List.getElem_mem _)
   obtain ⟨x, hxx⟩ : ∃ x, r[i] = x := ⟨_, rfl⟩
   rw [hxx] at hstep htrue hg hx
   rw [show x.c = [.str x.t, .int .i64 x.k, .str x.v] from rfl] at hg
   have hm := rtmatch_call x.v a.v hx ha
   by_cases h1 : a.t = x.t
   ·by_cases h2 : foldB a.v = foldB x.v
    ·repeat' (first | ((first | refine Zu ?_ | (refine Zv ?_ ?_; (focus (simp [hg, h1, h2]; done)))); intro K9 h9; simp (disch := first | exact dd | fail) [hg, h1, h2]; refine Zm ?_; ((first | refine Ap hm ?_ | skip) <;> (refine Zf h9 ?_; clear h9 K9))) | refine Zt ?_ | refine Y8 fun K hK => ?_ | (apply hK; clear hK K) | (refine Yb rfl ?_ ?_ <;> intro hcnd <;> (try simp at hcnd) <;> try exact dc) | (refine Zn ?_ ?_; (focus (simp [hg, h1, h2]; done)); refine Zs ?_) | refine Zx ?_ | clear hK K)
     rw [htrue (by simp [eqA, h1, h2])]
     exact .pure .bool
    ·have h3 : ¬ foldB x.v = foldB a.v := fun e => h2 e.symm
     repeat' (first | ((first | refine Zu ?_ | (refine Zv ?_ ?_; (focus (simp [hg, h1, h2, h3]; done)))); intro K9 h9; simp (disch := first | exact dd | fail) [hg, h1, h2, h3]; refine Zm ?_; ((first | refine Ap hm ?_ | skip) <;> (refine Zf h9 ?_; clear h9 K9))) | refine Zt ?_ | refine Y8 fun K hK => ?_ | (apply hK; clear hK K) | (refine Yb rfl ?_ ?_ <;> intro hcnd <;> (try simp at hcnd) <;> try exact dc) | (refine Zn ?_ ?_; (focus (simp [hg, h1, h2, h3]; done)); refine Zs ?_) | refine Zx ?_ | clear hK K)
     refine hL (i + 1) _ _ (hstep (by simp [eqA, h2])) (by omega) ?_
     exact Yr [some 0] (by simp [rowsOver, h1])
   ·have h3 : ¬ x.t = a.t := fun e => h1 e.symm
    repeat' (first | ((first | refine Zu ?_ | (refine Zv ?_ ?_; (focus (simp [hg, h1, h3]; done)))); intro K9 h9; simp (disch := first | exact dd | fail) [hg, h1, h3]; refine Zm ?_; ((first | refine Ap hm ?_ | skip) <;> (refine Zf h9 ?_; clear h9 K9))) | refine Zt ?_ | refine Y8 fun K hK => ?_ | (apply hK; clear hK K) | (refine Yb rfl ?_ ?_ <;> intro hcnd <;> (try simp at hcnd) <;> try exact dc) | (refine Zn ?_ ?_; (focus (simp [hg, h1, h3]; done)); refine Zs ?_) | refine Zx ?_ | clear hK K)
    refine hL (i + 1) _ _ (hstep (by simp [eqA, h1])) (by omega) ?_
    exact Yr [some 0] (by simp [rowsOver])
  ·repeat' (first | refine Zr ?_ | refine Zt ?_ | refine Y8 fun K hK => ?_ | (apply hK; clear hK K) | (refine Yb rfl ?_ ?_ <;> intro hcnd <;> (try simp at hcnd) <;> try exact dc) | refine Zo ?_ | refine Zx ?_ | clear hK K)
   rw [show hasB r a = false from any_false fun j hj => hall j hj (by omega)]
   exact .pure .bool
 ·exact .bool

theorem rsame_call (a b : List At) (hla : a.length ≤ 65536) (ha : ∀ x ∈ a, x.v.length ≤ 65536) (hlb : b.length ≤ 65536) (hb : ∀ x ∈ b, x.v.length ≤ 65536) : PCall prog 168 [atsV a, atsV b] (.bool (sameB a b)) := by
 show PCall _ _ [.sl a.length (a.flatMap At.c), .sl b.length (b.flatMap At.c)] _
 refine pcall_body func168 rfl call168 ?_ ?_
 rotate_left 1
 refine awp_slots (s' := (.sl a.length (a.flatMap At.c) : V) :: (.sl b.length (b.flatMap At.c) : V) :: zJ 31) rfl ?_; dsimp only [zJ]
 by_cases h0 : ¬ (a.length : Int) = b.length
 ·repeat' (first | ((first | refine Zu ?_ | (refine Zv ?_ ?_; (focus (simp [h0]; done)))); intro K9 h9; simp (disch := first | exact dd | fail) [h0]; refine Zm ?_; refine Zf h9 ?_; clear h9 K9) | refine Zt ?_ | refine Y8 fun K hK => ?_ | (apply hK; clear hK K) | (refine Yb rfl ?_ ?_ <;> intro hcnd <;> (try simp at hcnd) <;> try exact dc) | (refine Zn ?_ ?_; (focus (simp [h0]; done)); refine Zs ?_) | refine Zx ?_ | clear hK K)
  rw [show sameB a b = false by simp [sameB]; omega]
  exact .pure .bool
 replace h0 : (a.length : Int) = b.length := by omega
 have hE : sameB a b = (a.all (hasB b) && b.all (hasB a)) := by simp [sameB]; omega
 rw [hE]
 have hm1 : ∀ x ∈ a, PCall prog 209 [.sl b.length (b.flatMap At.c), .agg [.str x.t, .int .i64 x.k, .str x.v]] (.bool (hasB b x)) := fun x hx => rhas_call b x hlb hb (ha _ hx)
 have hm2 : ∀ x ∈ b, PCall prog 209 [.sl a.length (a.flatMap At.c), .agg [.str x.t, .int .i64 x.k, .str x.v]] (.bool (hasB a x)) := fun x hx => rhas_call a x hla ha (hb _ hx)
 have hll := ats_len a
 have hcells := ats_at a
 have hll2 := ats_len b
 have hcells2 := ats_at b
 generalize a.flatMap At.c = ca at *
 generalize b.flatMap At.c = cb at *
 repeat' (first | ((first | refine Zu ?_ | (refine Zv ?_ ?_; (focus (simp [h0]; done)))); intro K9 h9; simp (disch := first | exact dd | fail) [h0]; refine Zm ?_; refine Zf h9 ?_; clear h9 K9) | refine Zt ?_ | refine Y8 fun K hK => ?_ | (apply hK; clear hK K) | (refine Yb rfl ?_ ?_ <;> intro hcnd <;> (try simp at hcnd) <;> try exact dc) | (refine Zn ?_ ?_; (focus (simp [h0]; done)); refine Zs ?_) | refine Zx ?_ | clear hK K)
 ·refine awp_loopU (α := Nat) (fun i => (zN 4 (zS 8 (none :: some (V.int .i64 i) :: zS 19 [])))) (fun i => []) (fun i => i ≤ b.length ∧ ∀ j (h : j < b.length), j < i → hasB b (a[j]'(by omega)) = true ∧ hasB a b[j] = true) (fun i => b.length - i) 0 ⟨by omega, fun j _ h => by omega⟩ ?_ ?_
  ·dsimp only [ups, zN, zS]
   exact Yr [] (by simp [rowsOver])
  rintro i ⟨hi, hall⟩ KL hL
  dsimp only [ups, zN, zS]
  rcases Nat.lt_or_ge i b.length with hi | hi
  ·have hia : i < a.length := by omega
   have hstep : hasB b a[i] = true → hasB a b[i] = true → i + 1 ≤ b.length ∧ ∀ j (h : j < b.length), j < i + 1 → hasB b (a[j]'(by omega)) = true ∧ hasB a b[j] = true := fun hx hy => ⟨by omega, fun j hj h => by
    rcases Nat.lt_or_ge j i with h3 | h3
    ·exact hall j hj h3
    ·obtain rfl : j = i := by omega
     exact ⟨hx, hy⟩⟩
   have hf1 : hasB b a[i] = false → (a.all (hasB b) && b.all (hasB a)) = false := fun h => by rw [all_false hia h]; rfl
   have hf2 : hasB a b[i] = false → (a.all (hasB b) && b.all (hasB a)) = false := fun h => by rw [all_false hi h, Bool.and_false]
   have hg := hcells i hia
   have hg2 := hcells2 i hi
   have hm := hm1 a[i] (List.getElem_mem _)
   have hm2 := hm2 b[i] (List.getElem_mem _)
   obtain ⟨x, hxx⟩ : ∃ x, a[i] = x := ⟨_, rfl⟩
   obtain ⟨y, hyy⟩ : ∃ x, b[i] = x := ⟨_, rfl⟩
   rw [hxx] at hstep hg hm hf1
   rw [hyy] at hstep hg2 hm2 hf2
   rw [show x.c = [.str x.t, .int .i64 x.k, .str x.v] from rfl] at hg
   rw [show y.c = [.str y.t, .int .i64 y.k, .str y.v] from rfl] at hg2
   cases h1 : hasB b x
   ·rw [h1] at hm
    repeat' (first | ((first | refine Zu ?_ | (refine Zv ?_ ?_; (focus (simp [h0, hg, hg2, h1]; done)))); intro K9 h9; simp (disch := first | exact dd | fail) [h0, hg, hg2, h1]; refine Zm ?_; ((first | refine Ap hm ?_ | refine Ap hm2 ?_ | skip) <;> (refine Zf h9 ?_; clear h9 K9))) | refine Zt ?_ | refine Y8 fun K hK => ?_ | (apply hK; clear hK K) | (refine Yb rfl ?_ ?_ <;> intro hcnd <;> (try simp at hcnd) <;> try exact dc) | (refine Zn ?_ ?_; (focus (simp [h0, hg, hg2, h1]; done)); refine Zs ?_) | refine Zx ?_ | clear hK K)
    rw [hf1 h1]
    exact .pure .bool
   ·cases h2 : hasB a y
    ·rw [h1] at hm
     rw [h2] at hm2
     repeat' (first | ((first | refine Zu ?_ | (refine Zv ?_ ?_; (focus (simp [h0, hg, hg2, h1, h2]; done)))); intro K9 h9; simp (disch := first | exact dd | fail) [h0, hg, hg2, h1, h2]; refine Zm ?_; ((first | refine Ap hm ?_ | refine Ap hm2 ?_ | skip) <;> (refine Zf h9 ?_; clear h9 K9))) | refine Zt ?_ | refine Y8 fun K hK => ?_ | (apply hK; clear hK K) | (refine Yb rfl ?_ ?_ <;> intro hcnd <;> (try simp at hcnd) <;> try exact dc) | (refine Zn ?_ ?_; (focus (simp [h0, hg, hg2, h1, h2]; done)); refine Zs ?_) | refine Zx ?_ | clear hK K)
     rw [hf2 h2]
     exact .pure .bool
    ·rw [h1] at hm
     rw [h2] at hm2
     repeat' (first | ((first | refine Zu ?_ | (refine Zv ?_ ?_; (focus (simp [h0, hg, hg2, h1, h2]; done)))); intro K9 h9; simp (disch := first | exact dd | fail) [h0, hg, hg2, h1, h2]; refine Zm ?_; ((first | refine Ap hm ?_ | refine Ap hm2 ?_ | skip) <;> (refine Zf h9 ?_; clear h9 K9))) | refine Zt ?_ | refine Y8 fun K hK => ?_ | (apply hK; clear hK K) | (refine Yb rfl ?_ ?_ <;> intro hcnd <;> (try simp at hcnd) <;> try exact dc) | (refine Zn ?_ ?_; (focus (simp [h0, hg, hg2, h1, h2]; done)); refine Zs ?_) | refine Zx ?_ | clear hK K)
     refine hL (i + 1) _ _ (hstep h1 h2) (by omega) ?_
     exact Yr [] (by simp [rowsOver])
  ·repeat' (first | ((first | refine Zu ?_ | (refine Zv ?_ ?_; (focus (simp [h0]; done)))); intro K9 h9; simp (disch := first | exact dd | fail) [h0]; refine Zm ?_; refine Zf h9 ?_; clear h9 K9) | refine Zt ?_ | refine Y8 fun K hK => ?_ | (apply hK; clear hK K) | (refine Yb rfl ?_ ?_ <;> intro hcnd <;> (try simp at hcnd) <;> try exact dc) | (refine Zn ?_ ?_; (focus (simp [h0]; done)); refine Zs ?_) | refine Zx ?_ | clear hK K)
   rw [all_true fun j hj => (hall j (by omega) (by omega)).1, all_true fun j hj => (hall j hj (by omega)).2]
   exact .pure .bool
 ·exact .bool

theorem rwithin_call (a b : Nm) (ha : WN a) (hb : WN b) : PCall prog 133 [.agg [nmV a], .agg [nmV b]] (.bool (withinB a b)) := by
 unfold nmV
 refine pcall_body func133 rfl call133 ?_ ?_
 rotate_left 1
 refine awp_slots (s' := (.agg [.sl a.length (a.map atsV)] : V) :: (.agg [.sl b.length (b.map atsV)] : V) :: zJ 30) rfl ?_; dsimp only [zJ]
 by_cases h0 : (a.length : Int) < b.length
 ·repeat' (first | (refine Zu ?_; intro K9 h9; simp (disch := first | exact dd | fail) [h0]; refine Zm ?_; refine Zf h9 ?_; clear h9 K9) | refine Zt ?_ | refine Y8 fun K hK => ?_ | (apply hK; clear hK K) | (refine Zk 0 [] ?_; refine Zl ?_) | (refine Yb rfl ?_ ?_ <;> intro hcnd <;> (try simp at hcnd) <;> try exact dc) | refine Zx ?_ | clear hK K)
  rw [show withinB a b = false by simp [withinB]; omega]
  exact .pure .bool
 have hla := ha.1
 have hlb := hb.1
 have h0' : b.length ≤ a.length := by omega
 repeat' (first | (refine Zu ?_; intro K9 h9; simp (disch := first | exact dd | fail) [h0]; refine Zm ?_; refine Zf h9 ?_; clear h9 K9) | refine Zt ?_ | refine Y8 fun K hK => ?_ | (apply hK; clear hK K) | (refine Zk 0 [] ?_; refine Zl ?_) | (refine Yb rfl ?_ ?_ <;> intro hcnd <;> (try simp at hcnd) <;> try exact dc) | refine Zx ?_ | clear hK K)
 ·refine awp_loopU (α := Nat) (fun i => (zS 2 (zN 2 (zS 11 (none :: some (V.int .i64 i) :: zS 15 []))))) (fun i => [.live [.sl a.length (a.map atsV)], .live [.sl b.length (b.map atsV)]]) (fun i => i ≤ b.length ∧ ∀ j (h : j < b.length), j < i → sameB (a[j]'(by omega)) b[j] = true) (fun i => b.length - i) 0 ⟨by omega, fun j _ h => by omega⟩ ?_ ?_
  ·dsimp only [ups, zN, zS]
   exact Yr [some 0, some 1] (by simp [rowsOver])
  rintro i ⟨hi, hall⟩ KL hL
  dsimp only [ups, zN, zS]
  rcases Nat.lt_or_ge i b.length with hi | hi
  ·have hia : i < a.length := by omega
   have hstep : sameB a[i] b[i] = true → i + 1 ≤ b.length ∧ ∀ j (h : j < b.length), j < i + 1 → sameB (a[j]'(by omega)) b[j] = true := fun hx => ⟨by omega, fun j hj h => by
    rcases Nat.lt_or_ge j i with h3 | h3
    ·exact hall j hj h3
    ·obtain rfl : j = i := by omega
     exact hx⟩
   have hf := zip_false hi h0'
   have hm := rsame_call a[i] b[i] (ha.2 _ (List.getElem_mem _)).1 (ha.2 _ (List.getElem_mem _)).2 (hb.2 _ (List.getElem_mem _)).1 (hb.2 _ (List.getElem_mem _)).2
   obtain ⟨x, hxx⟩ : ∃ x, a[i] = x := ⟨_, rfl⟩
   obtain ⟨y, hyy⟩ : ∃ x, b[i] = x := ⟨_, rfl⟩
   rw [hxx, hyy] at hstep hm hf
   cases h1 : sameB x y
   ·rw [h1] at hm
    repeat' (first | (refine Zu ?_; intro K9 h9; simp (disch := first | exact dd | fail) [h0, hxx, hyy, h1]; refine Zm ?_; ((first | refine ⟨_, hm, ?_⟩ | skip) <;> (refine Zf h9 ?_; clear h9 K9))) | refine Zt ?_ | refine Y8 fun K hK => ?_ | (apply hK; clear hK K) | ((first | refine Zk 0 [0, 0, 0, 0, 1, 0, 0, 0, 0, 1, 1] ?_ | refine Zk 0 [] ?_); refine Zl ?_) | (refine Yb rfl ?_ ?_ <;> intro hcnd <;> (try simp at hcnd) <;> try exact dc) | refine Zx ?_ | clear hK K)
    rw [hf h1]
    exact .pure .bool
   ·rw [h1] at hm
    repeat' (first | (refine Zu ?_; intro K9 h9; simp (disch := first | exact dd | fail) [h0, hxx, hyy, h1]; refine Zm ?_; ((first | refine ⟨_, hm, ?_⟩ | skip) <;> (refine Zf h9 ?_; clear h9 K9))) | refine Zt ?_ | refine Y8 fun K hK => ?_ | (apply hK; clear hK K) | ((first | refine Zk 0 [0, 0, 0, 0, 1, 0, 0, 0, 0, 1, 1] ?_ | refine Zk 0 [] ?_); refine Zl ?_) | (refine Yb rfl ?_ ?_ <;> intro hcnd <;> (try simp at hcnd) <;> try exact dc) | refine Zx ?_ | clear hK K)
    refine hL (i + 1) _ _ (hstep h1) (by omega) ?_
    exact Yr [some 0, some 1] (by simp [rowsOver])
  ·repeat' (first | (refine Zu ?_; intro K9 h9; simp (disch := first | exact dd | fail) [h0]; refine Zm ?_; refine Zf h9 ?_; clear h9 K9) | refine Zt ?_ | refine Y8 fun K hK => ?_ | (apply hK; clear hK K) | (refine Zk 0 [] ?_; refine Zl ?_) | (refine Yb rfl ?_ ?_ <;> intro hcnd <;> (try simp at hcnd) <;> try exact dc) | refine Zx ?_ | clear hK K)
   rw [zip_true h0' fun j hj => hall j hj (by omega)]
   exact .pure .bool
 ·exact .bool

theorem rmatch_call (a b : Nm) (ha : WN a) (hb : WN b) : PCall prog 88 [.agg [nmV a], .agg [nmV b]] (.bool (nameB a b)) := by
 have hm := rwithin_call a b ha hb
 unfold nmV at *
 refine pcall_body func88 rfl call88 ?_ ?_
 rotate_left 1
 refine awp_slots (s' := (.agg [.sl a.length (a.map atsV)] : V) :: (.agg [.sl b.length (b.map atsV)] : V) :: zJ 15) rfl ?_; dsimp only [zJ]
 have hla := ha.1
 have hlb := hb.1
 by_cases h0 : (a.length : Int) = b.length
 ·repeat' (first | ((first | refine Zu ?_ | (refine Zv ?_ ?_; (focus (simp [h0]; done)))); intro K9 h9; simp (disch := first | exact dd | fail) [h0]; refine Zm ?_; ((first | refine Ap hm ?_ | skip) <;> (refine Zf h9 ?_; clear h9 K9))) | refine Zt ?_ | refine Y8 fun K hK => ?_ | (apply hK; clear hK K) | (refine Zn ?_ ?_; (focus (simp [h0]; done)); refine Zs ?_) | refine Zx ?_ | clear hK K)
  rw [show nameB a b = withinB a b by simp [nameB]; omega]
  exact .pure .bool
 ·repeat' (first | ((first | refine Zu ?_ | (refine Zv ?_ ?_; (focus (simp [h0]; done)))); intro K9 h9; simp (disch := first | exact dd | fail) [h0]; refine Zm ?_; ((first | refine Ap hm ?_ | skip) <;> (refine Zf h9 ?_; clear h9 K9))) | refine Zt ?_ | refine Y8 fun K hK => ?_ | (apply hK; clear hK K) | (refine Zn ?_ ?_; (focus (simp [h0]; done)); refine Zs ?_) | refine Zx ?_ | clear hK K)
  rw [show nameB a b = false by simp [nameB]; omega]
  exact .pure .bool
 exact .bool

end Go.Proofs.YtnpndfmbkmbhbaaGreatDoor
