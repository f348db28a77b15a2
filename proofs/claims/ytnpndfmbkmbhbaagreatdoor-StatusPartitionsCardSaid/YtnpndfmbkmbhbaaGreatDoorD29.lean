/-
 ENCODINGS: lists sealed, decoded and signed by the reference, whatever they hold.
 Conditions: none.
-/
import Derived.Test.YtnpndfmbkmbhbaaGreatDoorHm
set_option maxRecDepth 100000
set_option maxHeartbeats 32000000
set_option linter.all false
namespace Go.Der
open Go.VS Go.Stp
theorem exsC_sum (L : List (Ex × Bs)) : (exsC L).length ≤ (L.map fun p => p.2.length + p.1.v.length + 26).sum := by
 induction L with
 | nil => simp [exsC]
 | cons p L ih =>
  have h1 := @wr_len 6 p.2
  have h2 := @wr_len 1 [255]
  have h3 := @wr_len 4 p.1.v
  have h4 := @wr_len 48 (exC p.2 p.1.crit p.1.v)
  have h5 : (exC p.2 p.1.crit p.1.v).length ≤ p.2.length + p.1.v.length + 16 := by
   unfold exC
   rw [List.length_append, List.length_append]
   cases p.1.crit <;> simp at h2 ⊢ <;> omega
  have e : exsC (p :: L) = exB p.2 p.1.crit p.1.v ++ exsC L := rfl
  rw [e, List.length_append]
  unfold exB
  simp only [List.map_cons, List.sum_cons]
  omega
end Go.Der
namespace Go.Proofs.YtnpndfmbkmbhbaaGreatDoor
open Go.Proofs.Tryz
open Go.VS Go.Der Go.Stp
attribute [local irreducible] arun arunD arunU AWp aend
theorem seal_call (C s : Bs) (hC : C.length ≤ 2000) (hs : s.length ≤ 2000) : PCall prog 31 [.str (wr 48 C), .str s] (.tup [.str (wr 48 (wr 48 C ++ (algB ++ wr 3 (0 :: s)))), .int .i64 0]) := by
 have hw := whole_call 48 C ⟨by omega, by omega, by omega⟩ (by omega)
 have ha := algorithm0_call
 have l1 := @wr_len 48 C
 have l2 : algB.length ≤ 100 := by decide
 have l3 := @wr_len 3 (0 :: s)
 rw [List.length_cons] at l3
 have h1 := fit_call 3 [[0], s] ⟨by omega, by omega, by omega⟩ (by simp) (by simp; omega)
 rw [show ([[0], s] : List Bs).flatten = 0 :: s by simp] at h1
 have h2 := fit_call 48 [wr 48 C, algB, wr 3 (0 :: s)] ⟨by omega, by omega, by omega⟩ (by simp) (by simp; omega)
 rw [show ([wr 48 C, algB, wr 3 (0 :: s)] : List Bs).flatten = wr 48 C ++ (algB ++ wr 3 (0 :: s)) by simp] at h2
 unfold wel El.c at hw
 dsimp only at hw
 generalize wr 48 (wr 48 C ++ (algB ++ wr 3 (0 :: s))) = R at *
 generalize wr 3 (0 :: s) = S3 at *
 generalize algB = AB at *
 generalize wr 48 C = T at *
 refine pcall_body func31 rfl call31 ?_ ?_
 rotate_left 1
 refine awp_slots (s' := (.str T : V) :: (.str s : V) :: zJ 32) rfl ?_; dsimp only [zJ]
 ·repeat' (first | (refine Zu ?_; intro K9 h9; refine Zd ?_; ((first | refine Ap hw ?_ | refine Ap ha ?_ | refine acall_view h1 ⟨.pure .int, view_row rfl (by simp) (by simp), trivial⟩ (.tup (by simp)) ?_ | refine acall_view h2 ⟨.pure .int, view_row rfl (by simp) (by simp), trivial⟩ (.tup (by simp)) ?_ | skip) <;> (refine Zf h9 ?_; clear h9 K9))) | refine Zt ?_ | refine Y8 fun K hK => ?_ | (apply hK; clear hK K) | (refine Yb rfl ?_ ?_ <;> intro hcnd <;> (try simp at hcnd) <;> try exact dc) | refine Zx ?_ | clear hK K)
  exact .pure (by simp)
 ·exact .tup (by simp)
theorem decCrl_call (C s : Bs) (hC : C.length ≤ 2000) (hs : s.length ≤ 2000) (c2 c3 c4 c5 c6 c7 c8 c9 c10 c11 c12 c13 c14 c15 : V) (q : ∀ x ∈ [c2, c3, c4, c5, c6, c7, c8, c9, c10, c11, c12, c13, c14, c15], x.Pure ∧ x.one = true) (hl : PCall prog 58 [.agg [.int .i64 48, .str C, .str (wr 48 C)]] (.tup [.agg [.str [], .str (wr 48 C), c2, c3, c4, c5, c6, c7, c8, c9, c10, c11, c12, c13, c14, c15, .str []], .int .i64 0])) (hck : PCall prog 43 [.agg [.str (wr 48 (wr 48 C ++ (algB ++ wr 3 (0 :: s)))), .str (wr 48 C), c2, c3, c4, c5, c6, c7, c8, c9, c10, c11, c12, c13, c14, c15, .str s]] (.int .i64 0)) (het : PCall prog 29 [.agg [.str (wr 48 (wr 48 C ++ (algB ++ wr 3 (0 :: s)))), .str (wr 48 C), c2, c3, c4, c5, c6, c7, c8, c9, c10, c11, c12, c13, c14, c15, .str s]] (.tup [.str (wr 48 C), .int .i64 0])) : PCall prog 32 [.str (wr 48 (wr 48 C ++ (algB ++ wr 3 (0 :: s))))] (.tup [.agg [.str (wr 48 (wr 48 C ++ (algB ++ wr 3 (0 :: s)))), .str (wr 48 C), c2, c3, c4, c5, c6, c7, c8, c9, c10, c11, c12, c13, c14, c15, .str s], .int .i64 0]) := by
 have l1 := @wr_len 48 C
 have l2 : algB.length ≤ 100 := by decide
 have l2b : algC.length ≤ 100 := by decide
 have l3 := @wr_len 3 (0 :: s)
 rw [List.length_cons] at l3
 have hTc : TcS [(48, C), (48, algC), (3, 0 :: s)] := fun p hp => by
  simp at hp
  rcases hp with rfl | rfl | rfl
  ·exact ⟨⟨by omega, by omega, by omega⟩, by dsimp only; omega⟩
  ·exact ⟨⟨by omega, by omega, by omega⟩, by dsimp only; omega⟩
  ·exact ⟨⟨by omega, by omega, by omega⟩, by simp; omega⟩
 have ew : wrs [(48, C), (48, algC), (3, 0 :: s)] = wr 48 C ++ (algB ++ wr 3 (0 :: s)) := by simp [wrs, algB]
 have ho := open14_call [(48, C), (48, algC), (3, 0 :: s)] hTc (by rw [ew]; simp; omega)
 rw [ew] at ho
 have n0 : MCall prog 57 [.ref 0 0, .int .i64 (-1)] [elsV (wels [(48, C), (48, algC), (3, 0 :: s)]), .int .i64 0] [elsV (wels [(48, C), (48, algC), (3, 0 :: s)]), .int .i64 1] (.tup [.agg [.int .i64 48, .str C, .str (wr 48 C)], .int .i64 0]) := need_call (wels [(48, C), (48, algC), (3, 0 :: s)]) 0 (-1) (by simp [wels]) (.inl (by omega)) (by simp [wels])
 have n1 : MCall prog 59 [.ref 0 0] [elsV (wels [(48, C), (48, algC), (3, 0 :: s)]), .int .i64 1] [elsV (wels [(48, C), (48, algC), (3, 0 :: s)]), .int .i64 2] (.int .i64 0) := algorithmf_call (wels [(48, C), (48, algC), (3, 0 :: s)]) 1 (by simp [wels]) rfl (by simp [wels])
 have n2 : MCall prog 60 [.ref 0 0] [elsV (wels [(48, C), (48, algC), (3, 0 :: s)]), .int .i64 2] [elsV (wels [(48, C), (48, algC), (3, 0 :: s)]), .int .i64 3] (.tup [.str s, .int .i64 0]) := signature_call (wels [(48, C), (48, algC), (3, 0 :: s)]) 2 s (by simp [wels]) (by omega) rfl (by simp [wels])
 have n3 : MCall prog 61 [.ref 0 0] [elsV (wels [(48, C), (48, algC), (3, 0 :: s)]), .int .i64 3] [elsV (wels [(48, C), (48, algC), (3, 0 :: s)]), .int .i64 3] (.int .i64 0) := endf_call (wels [(48, C), (48, algC), (3, 0 :: s)]) (by simp [wels])
 have hp : (elsV (wels [(48, C), (48, algC), (3, 0 :: s)])).Pure := elsV_pure _
 have hE1 : (elsV (wels [(48, C), (48, algC), (3, 0 :: s)])).one = true := rfl
 clear hTc ew l1 l2 l2b l3
 generalize elsV (wels [(48, C), (48, algC), (3, 0 :: s)]) = Z at *
 generalize wr 48 (wr 48 C ++ (algB ++ wr 3 (0 :: s))) = R at *
 generalize wr 48 C = T at *
 simp at q
 obtain ⟨⟨p2, o2⟩, ⟨p3, o3⟩, ⟨p4, o4⟩, ⟨p5, o5⟩, ⟨p6, o6⟩, ⟨p7, o7⟩, ⟨p8, o8⟩, ⟨p9, o9⟩, ⟨p10, o10⟩, ⟨p11, o11⟩, ⟨p12, o12⟩, ⟨p13, o13⟩, ⟨p14, o14⟩, ⟨p15, o15⟩⟩ := q
 refine pcall_body func32 rfl call32 ?_ ?_
 rotate_left 1
 refine awp_slots (s' := (.str R : V) :: zJ 78) rfl ?_; dsimp only [zJ]
 ·repeat' (first | (refine Zu ?_; intro K9 h9; simp (disch := first | exact dd | fail) [hE1, o2, o3, o4, o5, o6, o7, o8, o9, o10, o11, o12, o13, o14, o15]; refine Zm ?_; ((first | refine Ap ho ?_ | refine Ap hl ?_ | refine acall_pure hck (by simp [p2, p3, p4, p5, p6, p7, p8, p9, p10, p11, p12, p13, p14, p15]) ?_ | refine acall_pure het (by simp [p2, p3, p4, p5, p6, p7, p8, p9, p10, p11, p12, p13, p14, p15]) ?_ | refine acall_mutf n0 rfl (by simp [hp]) (by simp [hp]) (.tup (by simp)) (by simp) ?_ | refine acall_mutf n1 rfl (by simp [hp]) (by simp [hp]) .int (by simp) ?_ | refine acall_mutf n2 rfl (by simp [hp]) (by simp [hp]) (.tup (by simp)) (by simp) ?_ | refine acall_mutf n3 rfl (by simp [hp]) (by simp [hp]) .int (by simp) ?_ | skip) <;> (refine Zf h9 ?_; clear h9 K9))) | refine Zt ?_ | refine Y8 fun K hK => ?_ | (apply hK; clear hK K) | (refine Yb rfl ?_ ?_ <;> intro hcnd <;> (try simp at hcnd) <;> try exact dc) | refine Zx ?_ | clear hK K)
  simp
  exact .pure (by simp [p2, p3, p4, p5, p6, p7, p8, p9, p10, p11, p12, p13, p14, p15])
 ·exact .tup (by simp [p2, p3, p4, p5, p6, p7, p8, p9, p10, p11, p12, p13, p14, p15])
theorem signL_call (C seed : Bs) (hC : C.length ≤ 900) (hsd : seed.length = 32) (a0 a1 a2 a3 a4 a5 a6 a7 a8 a9 a10 a11 a12 a13 a14 a15 a16 d0 d1 d2 d3 d4 d5 d6 d7 d8 d9 d10 d11 d12 d13 d14 d15 d16 : V) (qa : ∀ x ∈ [a0, a1, a2, a3, a4, a5, a6, a7, a8, a9, a10, a11, a12, a13, a14, a15, a16], x.Pure ∧ x.one = true) (qd : ∀ x ∈ [d0, d1, d2, d3, d4, d5, d6, d7, d8, d9, d10, d11, d12, d13, d14, d15, d16], x.Pure ∧ x.one = true) (he : PCall prog 29 [.agg [a0, a1, a2, a3, a4, a5, a6, a7, a8, a9, a10, a11, a12, a13, a14, a15, a16]] (.tup [.str (wr 48 C), .int .i64 0])) (hd : PCall prog 32 [.str (wr 48 (wr 48 C ++ (algB ++ wr 3 (0 :: sgnS seed 0 0 (wr 48 C)))))] (.tup [.agg [d0, d1, d2, d3, d4, d5, d6, d7, d8, d9, d10, d11, d12, d13, d14, d15, d16], .int .i64 0])) : PCall prog 18 [.agg [a0, a1, a2, a3, a4, a5, a6, a7, a8, a9, a10, a11, a12, a13, a14, a15, a16], rtV seed 0, .int .i64 0] (.agg [d0, d1, d2, d3, d4, d5, d6, d7, d8, d9, d10, d11, d12, d13, d14, d15, d16]) := by
 have l1 := @wr_len 48 C
 have l2 := sgnS_length seed 0 0 (wr 48 C) (by omega)
 have hs : PCall prog 30 [rtV seed 0, .int .i64 0, .str (wr 48 C)] (.tup [.str (sgnS seed 0 0 (wr 48 C)), .int .i64 0]) := signTree_call seed 0 0 (wr 48 C) hsd (by omega) (by omega) (by omega)
 have hl := seal_call C (sgnS seed 0 0 (wr 48 C)) (by omega) (by omega)
 clear l1 l2
 generalize wr 48 (wr 48 C ++ (algB ++ wr 3 (0 :: sgnS seed 0 0 (wr 48 C)))) = R at *
 generalize sgnS seed 0 0 (wr 48 C) = S at *
 generalize wr 48 C = T at *
 unfold rtV at *
 generalize lvVs seed 0 (0 + 1) = LV at *
 generalize idS seed = ID at *
 simp at qa qd
 obtain ⟨⟨x0, y0⟩, ⟨x1, y1⟩, ⟨x2, y2⟩, ⟨x3, y3⟩, ⟨x4, y4⟩, ⟨x5, y5⟩, ⟨x6, y6⟩, ⟨x7, y7⟩, ⟨x8, y8⟩, ⟨x9, y9⟩, ⟨x10, y10⟩, ⟨x11, y11⟩, ⟨x12, y12⟩, ⟨x13, y13⟩, ⟨x14, y14⟩, ⟨x15, y15⟩, ⟨x16, y16⟩⟩ := qa
 obtain ⟨⟨u0, v0⟩, ⟨u1, v1⟩, ⟨u2, v2⟩, ⟨u3, v3⟩, ⟨u4, v4⟩, ⟨u5, v5⟩, ⟨u6, v6⟩, ⟨u7, v7⟩, ⟨u8, v8⟩, ⟨u9, v9⟩, ⟨u10, v10⟩, ⟨u11, v11⟩, ⟨u12, v12⟩, ⟨u13, v13⟩, ⟨u14, v14⟩, ⟨u15, v15⟩, ⟨u16, v16⟩⟩ := qd
 refine pcall_body func18 rfl call18 ?_ ?_
 rotate_left 1
 refine awp_slots (s' := (.agg [a0, a1, a2, a3, a4, a5, a6, a7, a8, a9, a10, a11, a12, a13, a14, a15, a16] : V) :: (.agg [.str seed, .str ID, .sl (0 + 1) LV] : V) :: (.int .i64 0 : V) :: zJ 39) rfl ?_; dsimp only [zJ]
 ·repeat' (first | (refine Zu ?_; intro K9 h9; simp (disch := first | exact dd | fail) [y0, v0, y1, v1, y2, v2, y3, v3, y4, v4, y5, v5, y6, v6, y7, v7, y8, v8, y9, v9, y10, v10, y11, v11, y12, v12, y13, v13, y14, v14, y15, v15, y16, v16]; refine Zm ?_; ((first | refine acall_pure he (by simp [x0, x1, x2, x3, x4, x5, x6, x7, x8, x9, x10, x11, x12, x13, x14, x15, x16]) ?_ | refine Ap hs ?_ | refine Ap hl ?_ | refine acall_pure hd (by simp) ?_ | skip) <;> (refine Zf h9 ?_; clear h9 K9))) | refine Zt ?_ | refine Y8 fun K hK => ?_ | (apply hK; clear hK K) | (refine Yb rfl ?_ ?_ <;> intro hcnd <;> (try simp at hcnd) <;> try exact dc) | refine Zx ?_ | clear hK K)
  simp
  exact .pure (by simp [u0, u1, u2, u3, u4, u5, u6, u7, u8, u9, u10, u11, u12, u13, u14, u15, u16])
 ·exact .agg (by simp [u0, u1, u2, u3, u4, u5, u6, u7, u8, u9, u10, u11, u12, u13, u14, u15, u16])
end Go.Proofs.YtnpndfmbkmbhbaaGreatDoor

