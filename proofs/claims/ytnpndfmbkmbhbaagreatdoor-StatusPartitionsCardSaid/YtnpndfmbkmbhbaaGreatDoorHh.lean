/-
 ENCODINGS: extensions checked, encoded and decoded by the reference.
 Conditions: none.
-/
import Derived.Test.YtnpndfmbkmbhbaaGreatDoorHg
set_option maxRecDepth 100000
set_option maxHeartbeats 32000000
set_option linter.all false
namespace Go.Der
open Go.VS Go.Stp
def exsC (L : List (Ex × Bs)) : Bs := L.flatMap fun p => exB p.2 p.1.crit p.1.v
def exL (L : List (Ex × Bs)) : List Ex := L.map (·.1)
theorem exsC_take (L : List (Ex × Bs)) (i : Nat) (h : i < L.length) : exsC (L.take (i + 1)) = exsC (L.take i) ++ exB L[i].2 L[i].1.crit L[i].1.v := by
 unfold exsC
 rw [List.take_succ_eq_append_getElem h, List.flatMap_append]
 simp
theorem exC_len (c : Bs) (b : Bool) (v : Bs) (hc : c.length ≤ 20) (hv : v.length ≤ 1000) : (exC c b v).length ≤ 1100 := by
 have h1 := @wr_len 6 c
 have h2 := @wr_len 1 [255]
 have h3 := @wr_len 4 v
 unfold exC
 rw [List.length_append, List.length_append]
 cases b <;> simp at h2 ⊢ <;> omega
theorem exB_len (c : Bs) (b : Bool) (v : Bs) (hc : c.length ≤ 20) (hv : v.length ≤ 1000) : (exB c b v).length ≤ 1110 := by
 have h1 := exC_len c b v hc hv
 have h2 := @wr_len 48 (exC c b v)
 unfold exB; omega
theorem exsC_len (L : List (Ex × Bs)) (h : ∀ p ∈ L, p.2.length ≤ 20 ∧ p.1.v.length ≤ 1000) : (exsC L).length ≤ 1110 * L.length := by
 induction L with
 | nil => simp [exsC]
 | cons p L ih =>
  have h1 := exB_len p.2 p.1.crit p.1.v (h p (by simp)).1 (h p (by simp)).2
  have h2 := ih fun q hq => h q (by simp [hq])
  have e : exsC (p :: L) = exB p.2 p.1.crit p.1.v ++ exsC L := rfl
  rw [e, List.length_append, List.length_cons]
  omega
end Go.Der
namespace Go.Proofs.YtnpndfmbkmbhbaaGreatDoor
open Go.Proofs.Tryz
open Go.VS Go.Der Go.Stp
attribute [local irreducible] arun arunD arunU AWp aend
abbrev EOk (p : Ex × Bs) : Prop := ExOk prog 165 210 138 151 p.1 p.2
theorem checkEach_call (L : List (Ex × Bs)) (hl : L.length ≤ 24) (hok : ∀ p ∈ L, EOk p) (hd : ∀ (i : Nat) (hi : i < (exL L).length), ∀ x ∈ (exL L).take i, x.id ≠ (exL L)[i].id) : PCall prog 170 [exsV (exL L)] (.int .i64 0) := by
 have hll : (exL L).length = L.length := by simp [exL]
 have hcl : ((exL L).flatMap Ex.c).length = (exL L).length * 3 := flat_len (f := Ex.c) (m := 3) (fun _ => rfl) _
 have hat := fun i hi => flat_at (f := Ex.c) (m := 3) (fun _ => rfl) (exL L) i hi
 have htk := fun i (hi : i ≤ (exL L).length) => exs_take (exL L) i hi
 rw [show exsV (exL L) = .sl (exL L).length ((exL L).flatMap Ex.c) from rfl]
 refine pcall_body func170 rfl call170 ?_ ?_
 rotate_left 1
 refine awp_slots (s' := (.sl (exL L).length ((exL L).flatMap Ex.c) : V) :: zJ 35) rfl ?_; dsimp only [zJ]
 ·repeat' (first | refine Zq ?_ | refine Zt ?_ | refine Y8 fun K hK => ?_ | (apply hK; clear hK K) | (refine Zk 1 [] ?_; refine Zl ?_) | (refine Yb rfl ?_ ?_ <;> intro hcnd <;> (try simp at hcnd) <;> try exact dc) | refine Zx ?_ | clear hK K)
  refine awp_countU (fun i => (zN 2 (zS 6 (zN 2 (some (V.int .i64 i) :: zS 25 []))))) (fun i => []) (exL L).length ?_ fun i hi KL hL => ?_
  ·dsimp only [ups, zN, zS]
   exact Le.drop (by simp)
  dsimp only [ups, zN, zS]
  rcases Nat.lt_or_ge i (exL L).length with hi | hi
  ·have ha := hat i hi
   have ht := htk i (by omega)
   have hok' := hok L[i] (List.getElem_mem (by omega))
   have hfn := findn_call ((exL L).take i) (exL L)[i].id (by rw [List.length_take]; omega) (hd i hi)
   have e1 : (exL L)[i] = L[i].1 := by simp [exL]
   have hv := hok'.valid
   have hc := hok'.chk
   rw [← e1] at hv hc
   rw [show ((exL L).take i).length = i by rw [List.length_take]; omega, ← ht] at hfn
   obtain ⟨⟨xi, xc, xv⟩, hxx⟩ : ∃ x, (exL L)[i] = x := ⟨_, rfl⟩
   rw [hxx] at ha hfn hv hc
   generalize (exL L).flatMap Ex.c = C at *
   unfold Ex.c at ha
   dsimp only at ha hfn hv hc
   repeat' (first | (refine Zu ?_; intro K9 h9; simp (disch := first | exact dd | fail) [ha, hcl]; refine Zm ?_; ((first | refine Zc hv ?_ | refine Zc hc ?_ | refine Zc hfn ?_ | skip) <;> (refine Zf h9 ?_; clear h9 K9))) | refine Zt ?_ | refine Y8 fun K hK => ?_ | (apply hK; clear hK K) | ((first | refine Zk (ops := #[_, _, _, _, _, _, _, _, _, _, _, _]) 1 [0, 0, 1, 0, 0, 1, 0, 0, 0, 0, 0, 0] ?_ | refine Zk 1 [] ?_); refine Zl ?_) | (refine Yb rfl ?_ ?_ <;> intro hcnd <;> (try simp at hcnd) <;> try exact dc) | refine Zx ?_ | clear hK K)
   refine hL _ _ hi ?_
   exact Le.drop (by dsimp only [ups, zN, zS]; simp)
  obtain rfl : i = (exL L).length := by omega
  repeat' (first | refine Zq ?_ | refine Zt ?_ | refine Y8 fun K hK => ?_ | (apply hK; clear hK K) | (refine Zk 1 [] ?_; refine Zl ?_) | (refine Yb rfl ?_ ?_ <;> intro hcnd <;> (try simp at hcnd) <;> try exact dc) | refine Zx ?_ | clear hK K)
  exact .pure .int
 ·exact .int
theorem checkExts_call (L : List (Ex × Bs)) (hl : L.length ≤ 24) (hne : L ≠ []) (hok : ∀ p ∈ L, EOk p) (hd : ∀ (i : Nat) (hi : i < (exL L).length), ∀ x ∈ (exL L).take i, x.id ≠ (exL L)[i].id) : PCall prog 135 [exsV (exL L)] (.int .i64 0) := by
 have hc := checkEach_call L hl hok hd
 have hll : (exL L).length = L.length := by simp [exL]
 have hpos : 0 < L.length := List.length_pos_iff.2 hne
 rw [show exsV (exL L) = .sl (exL L).length ((exL L).flatMap Ex.c) from rfl, hll] at hc ⊢
 clear hok hd hll
 have g1 : ¬ L.length = 0 := by omega
 have g2 : ¬ (24 : Int) < L.length := by omega
 generalize (exL L).flatMap Ex.c = C at *
 generalize L.length = n at *
 refine pcall_body func135 rfl call135 ?_ ?_
 rotate_left 1
 refine awp_slots (s' := (.sl n C : V) :: zJ 10) rfl ?_; dsimp only [zJ]
 ·repeat' (first | (refine Zu ?_; intro K9 h9; simp (disch := first | exact dd | fail) [g1, g2]; refine Zm ?_; ((first | refine Ap hc ?_ | skip) <;> (refine Zf h9 ?_; clear h9 K9))) | refine Zt ?_ | refine Y8 fun K hK => ?_ | (apply hK; clear hK K) | (refine Yb rfl ?_ ?_ <;> intro hcnd <;> (try simp at hcnd) <;> try exact dc) | refine Zx ?_ | clear hK K)
  exact .pure .int
 ·exact .int
theorem putBoolT_call : PCall prog 136 [.bool true] (.str [255]) := by
 refine pcall_body func136 rfl call136 ?_ ?_
 rotate_left 1
 refine awp_slots (s' := (.bool true : V) :: zJ 3) rfl ?_; dsimp only [zJ]
 ·repeat' (first | refine Zq ?_ | refine Zt ?_ | refine Y8 fun K hK => ?_ | (apply hK; clear hK K) | (refine Yb rfl ?_ ?_ <;> intro hcnd <;> (try simp at hcnd) <;> try exact dc) | refine Zx ?_ | clear hK K)
  exact .pure .str
 ·exact .str
theorem oidx_call (p : Ex × Bs) (h : EOk p) : PCall prog 96 [.str p.1.id] (.str (wr 6 p.2)) := by
 have he := h.enc
 have hl := h.cl
 have hw := wrap7_call 6 [p.2] ⟨by omega, by omega, by omega⟩ (by simp) (by simp; omega)
 rw [show ([p.2] : List Bs).flatten = p.2 by simp] at hw
 generalize p.1.id = id at *
 generalize wr 6 p.2 = R at *
 generalize p.2 = c at *
 refine pcall_body func96 rfl call96 ?_ ?_
 rotate_left 1
 refine awp_slots (s' := (.str id : V) :: zJ 12) rfl ?_; dsimp only [zJ]
 ·repeat' (first | (refine Zu ?_; intro K9 h9; refine Zd ?_; ((first | refine Ap he ?_ | refine acall_view hw ⟨.pure .int, view_row rfl (by simp) (by simp), trivial⟩ .str ?_ | skip) <;> (refine Zf h9 ?_; clear h9 K9))) | refine Zt ?_ | refine Y8 fun K hK => ?_ | (apply hK; clear hK K) | refine Zx ?_ | clear hK K)
  exact .pure .str
 ·exact .str
theorem encExts_call (L : List (Ex × Bs)) (hl : L.length ≤ 24) (hne : L ≠ []) (hok : ∀ p ∈ L, EOk p) (hd : ∀ (i : Nat) (hi : i < (exL L).length), ∀ x ∈ (exL L).take i, x.id ≠ (exL L)[i].id) : PCall prog 90 [exsV (exL L)] (.tup [.str (wr 48 (exsC L)), .int .i64 0]) := by
 have hck := checkExts_call L hl hne hok hd
 have hll : (exL L).length = L.length := by simp [exL]
 have hcl : ((exL L).flatMap Ex.c).length = (exL L).length * 3 := flat_len (f := Ex.c) (m := 3) (fun _ => rfl) _
 have hat := fun i hi => flat_at (f := Ex.c) (m := 3) (fun _ => rfl) (exL L) i hi
 have hbl := exsC_len L fun p hp => ⟨(hok p hp).cl, (hok p hp).vl⟩
 have hw := fit_call 48 [exsC L] ⟨by omega, by omega, by omega⟩ (by simp) (by simp; omega)
 rw [show ([exsC L] : List Bs).flatten = exsC L by simp] at hw
 have hpb := putBoolT_call
 have hwb := wrap7_call 1 [[255]] ⟨by omega, by omega, by omega⟩ (by simp) (by simp)
 rw [show ([[255]] : List Bs).flatten = [255] by simp] at hwb
 have hbi : ∀ i, i ≤ L.length → (exsC (L.take i)).length ≤ 1110 * 24 := fun i hi => by
  have := exsC_len (L.take i) fun p hp => ⟨(hok p (List.mem_of_mem_take hp)).cl, (hok p (List.mem_of_mem_take hp)).vl⟩
  rw [List.length_take] at this; omega
 rw [show exsV (exL L) = .sl (exL L).length ((exL L).flatMap Ex.c) from rfl] at hck ⊢
 refine pcall_body func90 rfl call90 ?_ ?_
 rotate_left 1
 refine awp_slots (s' := (.sl (exL L).length ((exL L).flatMap Ex.c) : V) :: zJ 59) rfl ?_; dsimp only [zJ]
 ·repeat' (first | (refine Zu ?_; intro K9 h9; refine Zd ?_; ((first | refine Ap hck ?_ | skip) <;> (refine Zf h9 ?_; clear h9 K9))) | refine Zt ?_ | refine Y8 fun K hK => ?_ | (apply hK; clear hK K) | (refine Yb rfl ?_ ?_ <;> intro hcnd <;> (try simp at hcnd) <;> try exact dc) | refine Zx ?_ | clear hK K)
  refine awp_countU (fun i => (some V.junk :: none :: zS 3 (some (V.str (exsC (L.take i))) :: none :: zS 10 (zN 2 (some (V.int .i64 i) :: zS 40 []))))) (fun i => []) (exL L).length ?_ fun i hi KL hL => ?_
  ·dsimp only [ups, zN, zS]
   exact Le.drop (by simp [exsC])
  dsimp only [ups, zN, zS]
  rcases Nat.lt_or_ge i (exL L).length with hi | hi
  ·have hiL : i < L.length := by omega
   have ha := hat i hi
   have hok' := hok L[i] (List.getElem_mem hiL)
   have hcat := exsC_take L i hiL
   have hb1 := hbi i (by omega)
   have e1 : (exL L)[i] = L[i].1 := by simp [exL]
   have ho := oidx_call L[i] hok'
   have hvl := hok'.vl
   have hcl2 := hok'.cl
   have hb2 := exB_len L[i].2 L[i].1.crit L[i].1.v hcl2 hvl
   have hxl := exC_len L[i].2 L[i].1.crit L[i].1.v hcl2 hvl
   have hv := fit_call 4 [L[i].1.v] ⟨by omega, by omega, by omega⟩ (by simp) (by simp; omega)
   rw [show ([L[i].1.v] : List Bs).flatten = L[i].1.v by simp] at hv
   have hx := fit_call 48 [wr 6 L[i].2, (if L[i].1.crit = true then wr 1 [255] else []), wr 4 L[i].1.v] ⟨by omega, by omega, by omega⟩ (by simp) (by unfold exC at hxl; simpa using (by omega : (wr 6 L[i].2 ++ (if L[i].1.crit = true then wr 1 [255] else []) ++ wr 4 L[i].1.v).length ≤ 131072))
   rw [show ([wr 6 L[i].2, (if L[i].1.crit = true then wr 1 [255] else []), wr 4 L[i].1.v] : List Bs).flatten = exC L[i].2 L[i].1.crit L[i].1.v by simp [exC]] at hx
   rw [e1] at ha
   unfold exB at hcat hb2
   obtain ⟨pq, hpq⟩ : ∃ p, L[i] = p := ⟨_, rfl⟩
   obtain ⟨⟨xi, xc, xv⟩, c⟩ := pq
   rw [hpq] at ha ho hv hx hcat hb2
   generalize (exL L).flatMap Ex.c = C at *
   unfold Ex.c at ha
   dsimp only at ha ho hv hx hcat hb2
   generalize wr 6 c = W6 at *
   generalize wr 4 xv = W4 at *
   generalize wr 1 [255] = W1 at *
   generalize wr 48 (exC c xc xv) = W48 at *
   generalize exsC (L.take i) = S at *
   cases xc
   ·simp only [Bool.false_eq_true, if_false] at hx
    repeat' (first | (refine Zu ?_; intro K9 h9; simp (disch := first | exact dd | fail) [ha, hcl]; refine Zm ?_; ((first | refine Ap ho ?_ | refine acall_view hv ⟨.pure .int, view_row rfl (by simp) (by simp), trivial⟩ (.tup (by simp)) ?_ | refine acall_view hx ⟨.pure .int, view_row rfl (by simp) (by simp), trivial⟩ (.tup (by simp)) ?_ | skip) <;> (refine Zf h9 ?_; clear h9 K9))) | refine Zt ?_ | refine Y8 fun K hK => ?_ | (apply hK; clear hK K) | (refine Yb rfl ?_ ?_ <;> intro hcnd <;> (try simp at hcnd) <;> try exact dc) | refine Zx ?_ | clear hK K)
    refine hL _ _ hi ?_
    exact Le.drop (by dsimp only [ups, zN, zS]; simp [hcat])
   ·simp only [if_true] at hx
    repeat' (first | (refine Zu ?_; intro K9 h9; simp (disch := first | exact dd | fail) [ha, hcl]; refine Zm ?_; ((first | refine Ap ho ?_ | refine Ap hpb ?_ | refine acall_view hwb ⟨.pure .int, view_row rfl (by simp) (by simp), trivial⟩ .str ?_ | refine acall_view hv ⟨.pure .int, view_row rfl (by simp) (by simp), trivial⟩ (.tup (by simp)) ?_ | refine acall_view hx ⟨.pure .int, view_row rfl (by simp) (by simp), trivial⟩ (.tup (by simp)) ?_ | skip) <;> (refine Zf h9 ?_; clear h9 K9))) | refine Zt ?_ | refine Y8 fun K hK => ?_ | (apply hK; clear hK K) | (refine Yb rfl ?_ ?_ <;> intro hcnd <;> (try simp at hcnd) <;> try exact dc) | refine Zx ?_ | clear hK K)
    refine hL _ _ hi ?_
    exact Le.drop (by dsimp only [ups, zN, zS]; simp [hcat])
  obtain rfl : i = (exL L).length := by omega
  rw [hll, List.take_length]
  repeat' (first | (refine Zu ?_; intro K9 h9; refine Zd ?_; ((first | refine acall_view hw ⟨.pure .int, view_row rfl (by simp) (by simp), trivial⟩ (.tup (by simp)) ?_ | skip) <;> (refine Zf h9 ?_; clear h9 K9))) | refine Zt ?_ | refine Y8 fun K hK => ?_ | (apply hK; clear hK K) | (refine Yb rfl ?_ ?_ <;> intro hcnd <;> (try simp at hcnd) <;> try exact dc) | refine Zx ?_ | clear hK K)
  exact .pure (by simp)
 ·exact .tup (by simp)
end Go.Proofs.YtnpndfmbkmbhbaaGreatDoor
namespace Go.Der
open Go.VS Go.Stp
theorem nmB_len (v : Bs) (hl : v.length ≤ 64) : (nmB v).length ≤ 120 := by
 have w1 : (wr 6 cO).length ≤ 8 := by decide
 have w2 := @wr_len 19 v
 have w3 := @wr_len 48 (wr 6 cO ++ wr 19 v)
 have w4 := @wr_len 49 (wr 48 (wr 6 cO ++ wr 19 v))
 have w5 := @wr_len 48 (wr 49 (wr 48 (wr 6 cO ++ wr 19 v)))
 rw [List.length_append] at w3
 unfold nmB nmC
 omega
end Go.Der
namespace Go.Proofs.YtnpndfmbkmbhbaaGreatDoor
open Go.Proofs.Tryz
open Go.VS Go.Der Go.Stp
attribute [local irreducible] arun arunD arunU AWp aend
theorem order1_call (x : Bs) (hx : x.length ≤ 1000000) : PCall prog 83 [.sl 1 [.str x]] (.str x) := by
 refine pcall_body func83 rfl call83 ?_ ?_
 rotate_left 1
 refine awp_slots (s' := (.sl 1 [.str x] : V) :: zJ 52) rfl ?_; dsimp only [zJ]
 ·repeat' (first | refine Zr ?_ | refine Zt ?_ | (refine awp_rounds 3 fun KL hL => ?_) | refine Y8 fun K hK => ?_ | (apply hK; clear hK K) | ((first | refine awp_region_drawL (m := 4) [] (by simp) (by decide +kernel) [0, 0, 1, 0, 0, 0, 0, 0, 0, 1, 0, 0] 11 (by kernel_rfl) (by kernel_rfl) (by decide +kernel) (by decide +kernel) ?_ | refine Zk 4 [0, 0, 1, 0, 0, 0, 0, 0, 0, 1, 0, 0] ?_ | refine Zk 4 [] ?_); refine Zl ?_) | (refine Yb rfl ?_ ?_ <;> intro hcnd <;> (try simp at hcnd) <;> try exact dc) | refine Zo ?_ | refine Zx ?_ | clear hK K | (refine hL _ _ _ ?_) | (clear hK K) | (clear hL KL))
  exact .pure .str
 ·exact .str
theorem encName_call (v : Bs) (hv : PCall prog 166 [.int .i64 19, .str v] (.bool true)) (hl : v.length ≤ 64) (hn : v ≠ []) : PCall prog 44 [.agg [nmV (nm1 v)]] (.tup [.str (nmB v), .int .i64 0]) := by
 have hc := checkName_call v hv hl hn
 have ha := attributes_call v hl
 have w1 : (wr 6 cO).length ≤ 8 := by decide
 have w2 := @wr_len 19 v
 have w3 := @wr_len 48 (wr 6 cO ++ wr 19 v)
 have w4 := @wr_len 49 (wr 48 (wr 6 cO ++ wr 19 v))
 rw [List.length_append] at w3
 have ho := order1_call (wr 48 (wr 6 cO ++ wr 19 v)) (by omega)
 have h1 := wrap7_call 49 [wr 48 (wr 6 cO ++ wr 19 v)] ⟨by omega, by omega, by omega⟩ (by simp) (by simp; omega)
 rw [show ([wr 48 (wr 6 cO ++ wr 19 v)] : List Bs).flatten = wr 48 (wr 6 cO ++ wr 19 v) by simp] at h1
 have h2 := wrap7_call 48 [wr 49 (wr 48 (wr 6 cO ++ wr 19 v))] ⟨by omega, by omega, by omega⟩ (by simp) (by simp; omega)
 rw [show ([wr 49 (wr 48 (wr 6 cO ++ wr 19 v))] : List Bs).flatten = wr 49 (wr 48 (wr 6 cO ++ wr 19 v)) by simp] at h2
 unfold nmB nmC
 rw [nmV_nm1] at *
 generalize wr 48 (wr 49 (wr 48 (wr 6 cO ++ wr 19 v))) = R at *
 have w4' : (wr 49 (wr 48 (wr 6 cO ++ wr 19 v))).length ≤ 1000 := by omega
 generalize wr 49 (wr 48 (wr 6 cO ++ wr 19 v)) = R1 at *
 generalize wr 48 (wr 6 cO ++ wr 19 v) = R2 at *
 generalize [V.str [50, 46, 53, 46, 52, 46, 49, 48], V.int .i64 19, V.str v] = A at *
 refine pcall_body func44 rfl call44 ?_ ?_
 rotate_left 1
 refine awp_slots (s' := (.agg [.sl 1 [.sl 1 A]] : V) :: zJ 30) rfl ?_; dsimp only [zJ]
 ·repeat' (first | (refine Zu ?_; intro K9 h9; refine Zd ?_; ((first | refine Ap hc ?_ | refine Ap ha ?_ | refine Ap ho ?_ | refine acall_view h1 ⟨.pure .int, view_row rfl (by simp) (by simp), trivial⟩ .str ?_ | refine acall_view h2 ⟨.pure .int, view_row rfl (by simp) (by simp), trivial⟩ .str ?_ | skip) <;> (refine Zf h9 ?_; clear h9 K9))) | refine Zt ?_ | (refine awp_rounds 3 fun KL hL => ?_) | refine Y8 fun K hK => ?_ | (apply hK; clear hK K) | (refine Yb rfl ?_ ?_ <;> intro hcnd <;> (try simp at hcnd) <;> try exact dc) | refine Zx ?_ | clear hK K | (refine hL _ _ _ ?_) | (clear hK K) | (clear hL KL))
  exact .pure (by simp)
 ·exact .tup (by simp)
end Go.Proofs.YtnpndfmbkmbhbaaGreatDoor
