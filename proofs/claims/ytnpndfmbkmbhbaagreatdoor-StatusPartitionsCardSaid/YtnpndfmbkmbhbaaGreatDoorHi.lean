/-
 ENCODINGS: extensions decoded by the reference.
 Conditions: none.
-/
import Derived.Test.YtnpndfmbkmbhbaaGreatDoorHh
set_option maxRecDepth 100000
set_option maxHeartbeats 32000000
set_option linter.all false
namespace Go.Proofs.YtnpndfmbkmbhbaaGreatDoor
open Go.Proofs.Tryz
open Go.VS Go.Der Go.Stp
attribute [local irreducible] arun arunD arunU AWp aend
theorem extT_call (x : Ex) (c raw : Bs) (hok : EOk (x, c)) (hx : x.crit = true) : PCall prog 146 [.agg [.int .i64 48, .str (exC c true x.v), .str raw]] (.tup [.agg x.c, .int .i64 0]) := by
 have hcl := hok.cl
 have hvl := hok.vl
 have hd := hok.dec
 have w1 := @wr_len 6 c
 have w3 := @wr_len 4 x.v
 have w2 : (wr 1 [255]).length ≤ 5 := by decide
 have hTc : TcS [(6, c), (1, [255]), (4, x.v)] := fun p hp => by
  simp at hp
  rcases hp with rfl | rfl | rfl
  ·exact ⟨⟨by omega, by omega, by omega⟩, by dsimp only at hcl ⊢; omega⟩
  ·exact ⟨⟨by omega, by omega, by omega⟩, by simp⟩
  ·exact ⟨⟨by omega, by omega, by omega⟩, by dsimp only at hvl ⊢; omega⟩
 have ew : wrs [(6, c), (1, [255]), (4, x.v)] = exC c true x.v := by simp [wrs, exC]
 have ho := open_call 48 [(6, c), (1, [255]), (4, x.v)] hTc (by rw [ew]; have := exC_len c true x.v hcl hvl; omega) raw
 rw [ew] at ho
 have hn1 : MCall prog 57 [.ref 0 0, .int .i64 6] [elsV (wels [(6, c), (1, [255]), (4, x.v)]), .int .i64 0] [elsV (wels [(6, c), (1, [255]), (4, x.v)]), .int .i64 1] (.tup [.agg [.int .i64 6, .str c, .str (wr 6 c)], .int .i64 0]) := need_call (wels [(6, c), (1, [255]), (4, x.v)]) 0 6 (by simp [wels]) (.inr rfl) (by simp [wels])
 have hf : MCall prog 177 [.ref 0 0, .int .i64 1] [elsV (wels [(6, c), (1, [255]), (4, x.v)]), .int .i64 1] [elsV (wels [(6, c), (1, [255]), (4, x.v)]), .int .i64 2] (.tup [.bool true, .int .i64 0]) := flagT_call (wels [(6, c), (1, [255]), (4, x.v)]) 1 1 (by simp [wels]) rfl (by simp [wels])
 have hn2 : MCall prog 57 [.ref 0 0, .int .i64 4] [elsV (wels [(6, c), (1, [255]), (4, x.v)]), .int .i64 2] [elsV (wels [(6, c), (1, [255]), (4, x.v)]), .int .i64 3] (.tup [.agg [.int .i64 4, .str x.v, .str (wr 4 x.v)], .int .i64 0]) := need_call (wels [(6, c), (1, [255]), (4, x.v)]) 2 4 (by simp [wels]) (.inr rfl) (by simp [wels])
 have he : MCall prog 61 [.ref 0 0] [elsV (wels [(6, c), (1, [255]), (4, x.v)]), .int .i64 3] [elsV (wels [(6, c), (1, [255]), (4, x.v)]), .int .i64 3] (.int .i64 0) := endf_call (wels [(6, c), (1, [255]), (4, x.v)]) (by simp [wels])
 have hp : (elsV (wels [(6, c), (1, [255]), (4, x.v)])).Pure := elsV_pure _
 have hE1 : (elsV (wels [(6, c), (1, [255]), (4, x.v)])).one = true := rfl
 generalize elsV (wels [(6, c), (1, [255]), (4, x.v)]) = E at *
 obtain ⟨xi, xc, xv⟩ := x
 dsimp only at *
 subst hx
 unfold Ex.c
 dsimp only
 clear hTc ew w1 w2 w3 hok hcl hvl
 generalize exC c true xv = B at *
 generalize wr 6 c = C1 at *
 generalize wr 4 xv = C2 at *
 refine pcall_body func146 rfl call146 ?_ ?_
 rotate_left 1
 refine awp_slots (s' := (.agg [.int .i64 48, .str B, .str raw] : V) :: zJ 65) rfl ?_; dsimp only [zJ]
 ·repeat' (first | (refine ZuU ?_; intro K9 h9; simp (disch := first | exact dd | fail) [hE1]; refine Zm ?_; ((first | refine Ap ho ?_ | refine Ap hd ?_ | refine acall_mutf hn1 rfl (by simp [hp]) (by simp [hp]) (.tup (by simp)) (by simp) ?_ | refine acall_mutf hf rfl (by simp [hp]) (by simp [hp]) (.tup (by simp)) (by simp) ?_ | refine acall_mutf hn2 rfl (by simp [hp]) (by simp [hp]) (.tup (by simp)) (by simp) ?_ | refine acall_mutf he rfl (by simp [hp]) (by simp [hp]) .int (by simp) ?_ | skip) <;> (refine ZfU h9 ?_; clear h9 K9))) | refine ZtU ?_ | refine Y8 fun K hK => ?_ | (apply hK; clear hK K) | (refine Yb rfl ?_ ?_ <;> intro hcnd <;> (try simp at hcnd) <;> try exact dc) | refine Zx ?_ | clear hK K)
  simp
  exact .pure (by simp)
 ·exact .tup (by simp)
theorem extF_call (x : Ex) (c raw : Bs) (hok : EOk (x, c)) (hx : x.crit = false) : PCall prog 146 [.agg [.int .i64 48, .str (exC c false x.v), .str raw]] (.tup [.agg x.c, .int .i64 0]) := by
 have hcl := hok.cl
 have hvl := hok.vl
 have hd := hok.dec
 have hTc : TcS [(6, c), (4, x.v)] := fun p hp => by
  simp at hp
  rcases hp with rfl | rfl
  ·exact ⟨⟨by omega, by omega, by omega⟩, by dsimp only at hcl ⊢; omega⟩
  ·exact ⟨⟨by omega, by omega, by omega⟩, by dsimp only at hvl ⊢; omega⟩
 have ew : wrs [(6, c), (4, x.v)] = exC c false x.v := by simp [wrs, exC]
 have ho := open_call 48 [(6, c), (4, x.v)] hTc (by rw [ew]; have := exC_len c false x.v hcl hvl; omega) raw
 rw [ew] at ho
 have hn1 : MCall prog 57 [.ref 0 0, .int .i64 6] [elsV (wels [(6, c), (4, x.v)]), .int .i64 0] [elsV (wels [(6, c), (4, x.v)]), .int .i64 1] (.tup [.agg [.int .i64 6, .str c, .str (wr 6 c)], .int .i64 0]) := need_call (wels [(6, c), (4, x.v)]) 0 6 (by simp [wels]) (.inr rfl) (by simp [wels])
 have hf : MCall prog 177 [.ref 0 0, .int .i64 1] [elsV (wels [(6, c), (4, x.v)]), .int .i64 1] [elsV (wels [(6, c), (4, x.v)]), .int .i64 1] (.tup [.bool false, .int .i64 0]) := flagF_call (wels [(6, c), (4, x.v)]) 1 1 (mayn_call (wels [(6, c), (4, x.v)]) 1 1 (by simp [wels]) (by simp [wels, wel]) (by simp [wels]))
 have hn2 : MCall prog 57 [.ref 0 0, .int .i64 4] [elsV (wels [(6, c), (4, x.v)]), .int .i64 1] [elsV (wels [(6, c), (4, x.v)]), .int .i64 2] (.tup [.agg [.int .i64 4, .str x.v, .str (wr 4 x.v)], .int .i64 0]) := need_call (wels [(6, c), (4, x.v)]) 1 4 (by simp [wels]) (.inr rfl) (by simp [wels])
 have he : MCall prog 61 [.ref 0 0] [elsV (wels [(6, c), (4, x.v)]), .int .i64 2] [elsV (wels [(6, c), (4, x.v)]), .int .i64 2] (.int .i64 0) := endf_call (wels [(6, c), (4, x.v)]) (by simp [wels])
 have hp : (elsV (wels [(6, c), (4, x.v)])).Pure := elsV_pure _
 have hE1 : (elsV (wels [(6, c), (4, x.v)])).one = true := rfl
 generalize elsV (wels [(6, c), (4, x.v)]) = E at *
 obtain ⟨xi, xc, xv⟩ := x
 dsimp only at *
 subst hx
 unfold Ex.c
 dsimp only
 clear hTc ew hok hcl hvl
 generalize exC c false xv = B at *
 generalize wr 6 c = C1 at *
 generalize wr 4 xv = C2 at *
 refine pcall_body func146 rfl call146 ?_ ?_
 rotate_left 1
 refine awp_slots (s' := (.agg [.int .i64 48, .str B, .str raw] : V) :: zJ 65) rfl ?_; dsimp only [zJ]
 ·repeat' (first | (refine ZuU ?_; intro K9 h9; simp (disch := first | exact dd | fail) [hE1]; refine Zm ?_; ((first | refine Ap ho ?_ | refine Ap hd ?_ | refine acall_mutf hn1 rfl (by simp [hp]) (by simp [hp]) (.tup (by simp)) (by simp) ?_ | refine acall_mutf hf rfl (by simp [hp]) (by simp [hp]) (.tup (by simp)) (by simp) ?_ | refine acall_mutf hn2 rfl (by simp [hp]) (by simp [hp]) (.tup (by simp)) (by simp) ?_ | refine acall_mutf he rfl (by simp [hp]) (by simp [hp]) .int (by simp) ?_ | skip) <;> (refine ZfU h9 ?_; clear h9 K9))) | refine ZtU ?_ | refine Y8 fun K hK => ?_ | (apply hK; clear hK K) | (refine Yb rfl ?_ ?_ <;> intro hcnd <;> (try simp at hcnd) <;> try exact dc) | refine Zx ?_ | clear hK K)
  simp
  exact .pure (by simp)
 ·exact .tup (by simp)
end Go.Proofs.YtnpndfmbkmbhbaaGreatDoor
namespace Go.Der
open Go.VS Go.Stp
def exsW (L : List (Ex × Bs)) : List (Int × Bs) := L.map fun p => (48, exC p.2 p.1.crit p.1.v)
theorem exsC_wrs (L : List (Ex × Bs)) : wrs (exsW L) = exsC L := by
 induction L with
 | nil => rfl
 | cons p L ih => exact congrArg (wr 48 (exC p.2 p.1.crit p.1.v) ++ ·) ih
theorem exL_take (L : List (Ex × Bs)) (i : Nat) (h : i < L.length) : ((exL L).take (i + 1)).flatMap Ex.c = ((exL L).take i).flatMap Ex.c ++ L[i].1.c := by
 have h' : i < (exL L).length := by simpa [exL] using h
 rw [List.take_succ_eq_append_getElem h', List.flatMap_append]
 simp [exL]
end Go.Der
namespace Go.Proofs.YtnpndfmbkmbhbaaGreatDoor
open Go.Proofs.Tryz
open Go.VS Go.Der Go.Stp
attribute [local irreducible] arun arunD arunU AWp aend
theorem ext_call1 (p : Ex × Bs) (raw : Bs) (hok : EOk p) : PCall prog 146 [.agg [.int .i64 48, .str (exC p.2 p.1.crit p.1.v), .str raw]] (.tup [.agg p.1.c, .int .i64 0]) := by
 cases h : p.1.crit
 ·exact extF_call p.1 p.2 raw hok h
 ·exact extT_call p.1 p.2 raw hok h
theorem decExts_call (L : List (Ex × Bs)) (hl : L.length ≤ 24) (hne : L ≠ []) (hok : ∀ p ∈ L, EOk p) (hd : ∀ (i : Nat) (hi : i < (exL L).length), ∀ x ∈ (exL L).take i, x.id ≠ (exL L)[i].id) : PCall prog 109 [.str (wr 48 (exsC L))] (.tup [.sl L.length ((exL L).flatMap Ex.c), .int .i64 0]) := by
 have hck := checkExts_call L hl hne hok hd
 have hll : (exL L).length = L.length := by simp [exL]
 have hbl := exsC_len L fun p hp => ⟨(hok p hp).cl, (hok p hp).vl⟩
 have hone := one_call 48 (exsC L) ⟨by omega, by omega, by omega⟩ (by omega)
 have hTc : TcS (exsW L) := fun q hq => by
  simp only [exsW, List.mem_map] at hq
  obtain ⟨p, hp, rfl⟩ := hq
  refine ⟨⟨by omega, by omega, by omega⟩, ?_⟩
  have := exC_len p.2 p.1.crit p.1.v (hok p hp).cl (hok p hp).vl
  dsimp only
  omega
 have ho := open_call 48 (exsW L) hTc (by rw [exsC_wrs]; omega) (wr 48 (exsC L))
 rw [exsC_wrs] at ho
 have hwl : (wels (exsW L)).length = L.length := by simp [wels, exsW]
 have hat := fun i hi => els_at (wels (exsW L)) i hi
 have hcl := els_len (wels (exsW L))
 rw [show elsV (wels (exsW L)) = .sl (wels (exsW L)).length ((wels (exsW L)).flatMap El.c) from rfl, hwl] at ho
 rw [hwl] at hcl
 rw [show exsV (exL L) = .sl (exL L).length ((exL L).flatMap Ex.c) from rfl, hll] at hck
 unfold wel El.c at hone
 dsimp only at hone
 have hex : ∀ i (hi : i < L.length), PCall prog 146 [.agg ((wels (exsW L))[i]'(by omega)).c] (.tup [.agg L[i].1.c, .int .i64 0]) := fun i hi => by
  have h := ext_call1 L[i] (wr 48 (exC L[i].2 L[i].1.crit L[i].1.v)) (hok _ (List.getElem_mem hi))
  have e : (wels (exsW L))[i]'(by omega) = wel 48 (exC L[i].2 L[i].1.crit L[i].1.v) := by simp [wels, exsW]
  rw [e]; exact h
 have hat' : ∀ i (hi : i < L.length), List.take 3 (List.drop (i * 3) ((wels (exsW L)).flatMap El.c)) = ((wels (exsW L))[i]'(by omega)).c := fun i hi => hat i (by omega)
 clear hat hok hTc hd
 generalize wr 48 (exsC L) = R at *
 generalize exsC L = B at *
 generalize hC : (wels (exsW L)).flatMap El.c = C at *
 refine pcall_body func109 rfl call109 ?_ ?_
 rotate_left 1
 refine awp_slots (s' := (.str R : V) :: zJ 54) rfl ?_; dsimp only [zJ]
 ·repeat' (first | (refine Zu ?_; intro K9 h9; refine Zd ?_; ((first | refine Ap hone ?_ | refine Ap ho ?_ | skip) <;> (refine Zf h9 ?_; clear h9 K9))) | refine Zt ?_ | refine Y8 fun K hK => ?_ | (apply hK; clear hK K) | (refine Yb rfl ?_ ?_ <;> intro hcnd <;> (try simp at hcnd) <;> try exact dc) | refine Zx ?_ | clear hK K)
  refine awp_countU (fun i => (some V.junk :: none :: zS 5 (some (V.osl 0 0 i 3) :: none :: zS 21 (zN 2 (some (V.int .i64 i) :: zS 22 []))))) (fun i => [.live (((exL L).take i).flatMap Ex.c)]) L.length ?_ fun i hi KL hL => ?_
  ·dsimp only [ups, zN, zS]
   exact Yr [none] (by simp [rowsOver])
  dsimp only [ups, zN, zS]
  have hps : ∀ k, Pures (((exL L).take k).flatMap Ex.c) := fun k => flat_pures (fun e => by simp [Ex.c]) _
  have hol : ∀ k, k ≤ L.length → (((exL L).take k).flatMap Ex.c).length = k * 3 := fun k hk => by
   rw [flat_len (f := Ex.c) (m := 3) (fun _ => rfl), List.length_take]; omega
  rcases Nat.lt_or_ge i L.length with hi | hi
  ·have ha := hat' i hi
   have he := hex i hi
   have htk := exL_take L i hi
   have hpi := hps i
   have hoi := hol i (by omega)
   have ht2 : List.take (i * 3) (((exL L).take i).flatMap Ex.c) = ((exL L).take i).flatMap Ex.c := List.take_of_length_le (by omega)
   obtain ⟨q, hq⟩ : ∃ q, (wels (exsW L))[i]'(by omega) = q := ⟨_, rfl⟩
   obtain ⟨pq, hpq⟩ : ∃ p, L[i] = p := ⟨_, rfl⟩
   rw [hq] at ha he
   rw [hpq] at he htk
   obtain ⟨et, ec, er⟩ := q
   obtain ⟨⟨xi, xc, xv⟩, c⟩ := pq
   unfold El.c at ha he
   dsimp only at ha he htk
   rw [show (Ex.mk xi xc xv).c = [.str xi, .bool xc, .str xv] from rfl] at he htk
   generalize ((exL L).take i).flatMap Ex.c = O at *
   repeat' (first | (refine Zu ?_; intro K9 h9; simp (disch := first | exact dd | fail) [ha, hcl, hoi, ht2]; refine Zm ?_; ((first | refine Ap he ?_ | skip) <;> (refine Zf h9 ?_; clear h9 K9))) | refine Zt ?_ | refine Y8 fun K hK => ?_ | (apply hK; clear hK K) | (refine Yb rfl ?_ ?_ <;> intro hcnd <;> (try simp at hcnd) <;> try exact dc) | refine Zx ?_ | clear hK K)
   refine hL _ _ hi ?_
   refine Le.mk [some 4] (by dsimp only [ups, zN, zS]; simp) (rowsRen_of (by simp) ?_) (by simp)
   rw [htk]
   simp [rowsOver, rowRen_live]
   refine (rens_pures ?_).2 trivial
   intro x hx
   rcases List.mem_append.1 hx with h | h
   ·exact hpi x h
   ·simp at h
    rcases h with rfl | rfl | rfl <;> simp
  obtain rfl : i = L.length := by omega
  have hol' := hol L.length (by omega)
  have hpl := hps L.length
  rw [show (exL L).take L.length = exL L from List.take_of_length_le (by omega)] at *
  have e : List.take (L.length * 3) ((exL L).flatMap Ex.c) = (exL L).flatMap Ex.c := List.take_of_length_le (by omega)
  generalize (exL L).flatMap Ex.c = O at *
  refine awp_freeze' 0 rfl hpl (by simp [fz, e, hol']; rfl) (by simp [fzRow]; rfl) ?_
  repeat' (first | (refine Zu ?_; intro K9 h9; refine Zd ?_; ((first | refine Ap hck ?_ | skip) <;> (refine Zf h9 ?_; clear h9 K9))) | refine Zt ?_ | refine Y8 fun K hK => ?_ | (apply hK; clear hK K) | (refine Yb rfl ?_ ?_ <;> intro hcnd <;> (try simp at hcnd) <;> try exact dc) | refine Zx ?_ | clear hK K)
  exact .pure (by simp)
 ·exact .tup (by simp)
end Go.Proofs.YtnpndfmbkmbhbaaGreatDoor
