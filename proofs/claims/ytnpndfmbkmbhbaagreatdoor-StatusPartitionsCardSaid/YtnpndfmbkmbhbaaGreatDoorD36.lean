/-
 ENCODINGS: entries read by the reference.
 Conditions: none.
-/
import Derived.Test.YtnpndfmbkmbhbaaGreatDoorHm
set_option maxRecDepth 100000
set_option maxHeartbeats 32000000
set_option linter.all false
namespace Go.Proofs.YtnpndfmbkmbhbaaGreatDoor
open Go.Proofs.Tryz
open Go.VS Go.Der Go.Stp
attribute [local irreducible] arun arunD arunU AWp aend
theorem entVR_call (r : Nat) (hr : r < 128) (s t r0 i J : V) (hp : s.Pure ∧ t.Pure ∧ r0.Pure ∧ i.Pure ∧ J.Pure) (h1 : s.one = true ∧ t.one = true ∧ r0.one = true ∧ i.one = true ∧ J.one = true) : MCall prog 145 [.ref 0 0, .agg [.str [50, 46, 53, 46, 50, 57, 46, 50, 49], .bool false, .str (wr 10 [UInt8.ofNat r])]] [s, t, r0, i, J] [s, t, .int .i64 r, i, J] (.int .i64 0) := by
 have hb := bigInt_call 10 r ⟨by omega, by omega, by omega⟩ hr
 obtain ⟨p1, p2, p3, p4, p5⟩ := hp
 obtain ⟨o1, o2, o3, o4, o5⟩ := h1
 generalize wr 10 [UInt8.ofNat r] = U at *
 refine mcall_body func145 rfl call145 ?_ ?_ ?_
 rotate_left 2
 refine awp_slots (s' := (.ref 0 0 : V) :: (.agg [.str [50, 46, 53, 46, 50, 57, 46, 50, 49], .bool false, .str U] : V) :: zJ 87) rfl ?_; dsimp only [zJ]
 ·repeat' (first | ((first | refine ZuU ?_ | (refine ZvU ?_ ?_; (focus (simp [o1, o2, o3, o4, o5]; done)))); intro K9 h9; simp (disch := first | exact dd | fail) [o1, o2, o3, o4, o5]; refine Zm ?_; ((first | refine Ap hb ?_ | skip) <;> (refine ZfU h9 ?_; clear h9 K9))) | refine ZtU ?_ | refine Y8 fun K hK => ?_ | (apply hK; clear hK K) | (refine Yb rfl ?_ ?_ <;> intro hcnd <;> (try simp at hcnd) <;> try exact dc) | (refine ZnU ?_ ?_; (focus (simp [o1, o2, o3, o4, o5]; done)); refine ZsU ?_) | refine Zx ?_ | clear hK K)
  simp
  exact mend_plain
 ·exact .int
 ·simp [p1, p2, p3, p4, p5]
theorem entVI_call (v : Bs) (hv : VOk v) (s t r i J : V) (hp : s.Pure ∧ t.Pure ∧ r.Pure ∧ i.Pure ∧ J.Pure) (h1 : s.one = true ∧ t.one = true ∧ r.one = true ∧ i.one = true ∧ J.one = true) : MCall prog 145 [.ref 0 0, .agg [.str [50, 46, 53, 46, 50, 57, 46, 50, 57], .bool true, .str (wr 48 (wr 164 (nmB v)))]] [s, t, r, i, J] [s, t, r, i, nmV (nm1 v)] (.int .i64 0) := by
 have hnl := nmB_len v hv.len
 have w1 := @wr_len 164 (nmB v)
 have hw := whole_call 48 (wr 164 (nmB v)) ⟨by omega, by omega, by omega⟩ (by omega)
 have ho := oneDir_call v hv
 unfold wel El.c at hw
 dsimp only at hw
 obtain ⟨p1, p2, p3, p4, p5⟩ := hp
 obtain ⟨o1, o2, o3, o4, o5⟩ := h1
 have hY : (nmV (nm1 v)).Pure := .sl
 have hY1 : (nmV (nm1 v)).one = true := rfl
 generalize nmV (nm1 v) = Y at *
 generalize wr 48 (wr 164 (nmB v)) = U at *
 generalize wr 164 (nmB v) = C at *
 refine mcall_body func145 rfl call145 ?_ ?_ ?_
 rotate_left 2
 refine awp_slots (s' := (.ref 0 0 : V) :: (.agg [.str [50, 46, 53, 46, 50, 57, 46, 50, 57], .bool true, .str U] : V) :: zJ 87) rfl ?_; dsimp only [zJ]
 ·repeat' (first | ((first | refine ZuU ?_ | (refine ZvU ?_ ?_; (focus (simp [o1, o2, o3, o4, o5, hY1]; done)))); intro K9 h9; simp (disch := first | exact dd | fail) [o1, o2, o3, o4, o5, hY1]; refine Zm ?_; ((first | refine Ap hw ?_ | refine Ap ho ?_ | skip) <;> (refine ZfU h9 ?_; clear h9 K9))) | refine ZtU ?_ | refine Y8 fun K hK => ?_ | (apply hK; clear hK K) | (refine Yb rfl ?_ ?_ <;> intro hcnd <;> (try simp at hcnd) <;> try exact dc) | (refine ZnU ?_ ?_; (focus (simp [o1, o2, o3, o4, o5, hY1]; done)); refine ZsU ?_) | refine Zx ?_ | clear hK K)
  simp
  exact mend_plain
 ·exact .int
 ·simp [p1, p2, p3, p4, hY]
theorem readEntry0_call (s : Nat) (hs : s < 128) (raw : Bs) (J : V) (pJ : J.Pure) (oJ : J.one = true) : PCall prog 108 [.agg [.int .i64 48, .str (entC s []), .str raw], .agg [J]] (.tup [.agg [.int .i64 s, .int .i64 0, .int .i64 0, .int .i64 (-1), J], .int .i64 0]) := by
 have hw1 := @wr_len 2 [UInt8.ofNat s]
 have hw2 : (wr 23 (timeC 0)).length = 15 := rfl
 have ew : wrs [(2, [UInt8.ofNat s]), (23, timeC 0)] = entC s [] := by simp [wrs, entC, xsB, timeB]
 have hTc : TcS [(2, [UInt8.ofNat s]), (23, timeC 0)] := fun p hp => by
  simp at hp
  rcases hp with rfl | rfl
  ·exact ⟨⟨by omega, by omega, by omega⟩, by simp⟩
  ·exact ⟨⟨by omega, by omega, by omega⟩, by simp [timeC]⟩
 have ho := open_call 48 [(2, [UInt8.ofNat s]), (23, timeC 0)] hTc (by simp [wrs] at *; omega) raw
 rw [ew] at ho
 have n0 : MCall prog 104 [.ref 0 0] [elsV (wels [(2, [UInt8.ofNat s]), (23, timeC 0)]), .int .i64 0] [elsV (wels [(2, [UInt8.ofNat s]), (23, timeC 0)]), .int .i64 1] (.tup [.int .i64 s, .int .i64 0]) := integerf_call (wels [(2, [UInt8.ofNat s]), (23, timeC 0)]) 0 s (by simp [wels]) hs rfl (by simp [wels])
 have n1 : MCall prog 106 [.ref 0 0] [elsV (wels [(2, [UInt8.ofNat s]), (23, timeC 0)]), .int .i64 1] [elsV (wels [(2, [UInt8.ofNat s]), (23, timeC 0)]), .int .i64 2] (.tup [.int .i64 0, .int .i64 0]) := timef_call (wels [(2, [UInt8.ofNat s]), (23, timeC 0)]) 1 0 (by simp [wels]) (by omega) rfl (by simp [wels])
 have n2 : MCall prog 107 [.ref 0 0, .int .i64 48] [elsV (wels [(2, [UInt8.ofNat s]), (23, timeC 0)]), .int .i64 2] [elsV (wels [(2, [UInt8.ofNat s]), (23, timeC 0)]), .int .i64 2] (.tup [.agg [.int .i64 0, .str [], .str []], .bool false]) := maye_call (wels [(2, [UInt8.ofNat s]), (23, timeC 0)]) 48 (by simp [wels])
 have n3 : MCall prog 61 [.ref 0 0] [elsV (wels [(2, [UInt8.ofNat s]), (23, timeC 0)]), .int .i64 2] [elsV (wels [(2, [UInt8.ofNat s]), (23, timeC 0)]), .int .i64 2] (.int .i64 0) := endf_call (wels [(2, [UInt8.ofNat s]), (23, timeC 0)]) (by simp [wels])
 have hp : (elsV (wels [(2, [UInt8.ofNat s]), (23, timeC 0)])).Pure := elsV_pure _
 have hE1 : (elsV (wels [(2, [UInt8.ofNat s]), (23, timeC 0)])).one = true := rfl
 generalize elsV (wels [(2, [UInt8.ofNat s]), (23, timeC 0)]) = Z at *
 generalize entC s [] = R at *
 clear hTc ew hw1 hw2
 refine pcall_body func108 rfl call108 ?_ ?_
 rotate_left 1
 refine awp_slots (s' := (.agg [.int .i64 48, .str R, .str raw] : V) :: (.agg [J] : V) :: zJ 73) rfl ?_; dsimp only [zJ]
 ·repeat' (first | (refine Zu ?_; intro K9 h9; simp (disch := first | exact dd | fail) [hE1, oJ]; refine Zm ?_; ((first | refine Zc ho ?_ | refine acall_mutf n0 rfl (by simp [hp]) (by simp [hp]) (.tup (by simp)) (by simp) ?_ | refine acall_mutf n1 rfl (by simp [hp]) (by simp [hp]) (.tup (by simp)) (by simp) ?_ | refine acall_mutf n2 rfl (by simp [hp]) (by simp [hp]) (.tup (by simp)) (by simp) ?_ | refine acall_mutf n3 rfl (by simp [hp]) (by simp [hp]) .int (by simp) ?_ | skip) <;> (refine Zf h9 ?_; clear h9 K9))) | refine Zt ?_ | (first | (refine awp_region_any (ops := #[_, _, _, _]) (by decide +kernel) ?_) | (refine aTree_end (by decide +kernel) ?_) | (refine aTree_one 0 _ (by decide +kernel) rfl ?_) | (refine aTree_one 1 _ (by decide +kernel) rfl ?_) | (refine aTree_one 2 _ (by decide +kernel) rfl ?_) | (refine aTree_one 3 _ (by decide +kernel) rfl ?_) | (refine aTree_two 0 1 _ _ (by decide +kernel) rfl rfl ?_ ?_) | (refine aTree_two 0 2 _ _ (by decide +kernel) rfl rfl ?_ ?_) | (refine aTree_two 0 3 _ _ (by decide +kernel) rfl rfl ?_ ?_) | (refine aTree_two 1 2 _ _ (by decide +kernel) rfl rfl ?_ ?_) | (refine aTree_two 1 3 _ _ (by decide +kernel) rfl rfl ?_ ?_) | (refine aTree_two 2 3 _ _ (by decide +kernel) rfl rfl ?_ ?_)) | refine Y8 fun K hK => ?_ | (apply hK; clear hK K) | ((first | refine Zk (ops := #[_, _, _, _]) 0 [0, 1, 0, 0] ?_ | refine Zk 0 [] ?_); refine Zl ?_) | (refine Yb rfl ?_ ?_ <;> intro hcnd <;> (try simp at hcnd) <;> try exact dc) | refine Zx ?_ | clear hK K)
  all_goals
   simp
   exact .pure (by simp [pJ])
 ·exact .tup (by simp [pJ])
theorem readEntryR_call (s : Nat) (hs : s < 128) (r : Nat) (hr : r < 128) (raw : Bs) (J : V) (pJ : J.Pure) (oJ : J.one = true) : PCall prog 108 [.agg [.int .i64 48, .str (entC s [exRea r]), .str raw], .agg [J]] (.tup [.agg [.int .i64 s, .int .i64 0, .int .i64 r, .int .i64 (-1), J], .int .i64 0]) := by
 have hw1 := @wr_len 2 [UInt8.ofNat s]
 have hw2 : (wr 23 (timeC 0)).length = 15 := rfl
 have hxl := exsC_len [exRea r] (by simp; exact ⟨by simp [exRea], by have := @wr_len 10 [UInt8.ofNat r]; simp [exRea] at *; omega⟩)
 simp only [List.length_cons, List.length_nil] at hxl
 have hxw := @wr_len 48 (exsC [exRea r])
 have hx : PCall prog 109 [.str (wr 48 (exsC [exRea r]))] (.tup [.sl 1 [.str [50, 46, 53, 46, 50, 57, 46, 50, 49], .bool false, .str (wr 10 [UInt8.ofNat r])], .int .i64 0]) := decExts_call [exRea r] (by simp) (by simp) (by simp; exact eok_rea r hr) (dist1 _)
 have ew : wrs [(2, [UInt8.ofNat s]), (23, timeC 0), (48, exsC [exRea r])] = entC s [exRea r] := by simp [wrs, entC, xsB, timeB]
 have hTc : TcS [(2, [UInt8.ofNat s]), (23, timeC 0), (48, exsC [exRea r])] := fun p hp => by
  simp at hp
  rcases hp with rfl | rfl | rfl
  ·exact ⟨⟨by omega, by omega, by omega⟩, by simp⟩
  ·exact ⟨⟨by omega, by omega, by omega⟩, by simp [timeC]⟩
  ·exact ⟨⟨by omega, by omega, by omega⟩, by dsimp only; omega⟩
 have ho := open_call 48 [(2, [UInt8.ofNat s]), (23, timeC 0), (48, exsC [exRea r])] hTc (by simp [wrs] at *; omega) raw
 rw [ew] at ho
 have n0 : MCall prog 104 [.ref 0 0] [elsV (wels [(2, [UInt8.ofNat s]), (23, timeC 0), (48, exsC [exRea r])]), .int .i64 0] [elsV (wels [(2, [UInt8.ofNat s]), (23, timeC 0), (48, exsC [exRea r])]), .int .i64 1] (.tup [.int .i64 s, .int .i64 0]) := integerf_call (wels [(2, [UInt8.ofNat s]), (23, timeC 0), (48, exsC [exRea r])]) 0 s (by simp [wels]) hs rfl (by simp [wels])
 have n1 : MCall prog 106 [.ref 0 0] [elsV (wels [(2, [UInt8.ofNat s]), (23, timeC 0), (48, exsC [exRea r])]), .int .i64 1] [elsV (wels [(2, [UInt8.ofNat s]), (23, timeC 0), (48, exsC [exRea r])]), .int .i64 2] (.tup [.int .i64 0, .int .i64 0]) := timef_call (wels [(2, [UInt8.ofNat s]), (23, timeC 0), (48, exsC [exRea r])]) 1 0 (by simp [wels]) (by omega) rfl (by simp [wels])
 have n2 : MCall prog 107 [.ref 0 0, .int .i64 48] [elsV (wels [(2, [UInt8.ofNat s]), (23, timeC 0), (48, exsC [exRea r])]), .int .i64 2] [elsV (wels [(2, [UInt8.ofNat s]), (23, timeC 0), (48, exsC [exRea r])]), .int .i64 3] (.tup [.agg [.int .i64 48, .str (exsC [exRea r]), .str (wr 48 (exsC [exRea r]))], .bool true]) := may_call (wels [(2, [UInt8.ofNat s]), (23, timeC 0), (48, exsC [exRea r])]) 2 48 (by simp [wels]) rfl (by simp [wels])
 have n3 : MCall prog 61 [.ref 0 0] [elsV (wels [(2, [UInt8.ofNat s]), (23, timeC 0), (48, exsC [exRea r])]), .int .i64 3] [elsV (wels [(2, [UInt8.ofNat s]), (23, timeC 0), (48, exsC [exRea r])]), .int .i64 3] (.int .i64 0) := endf_call (wels [(2, [UInt8.ofNat s]), (23, timeC 0), (48, exsC [exRea r])]) (by simp [wels])
 have hp : (elsV (wels [(2, [UInt8.ofNat s]), (23, timeC 0), (48, exsC [exRea r])])).Pure := elsV_pure _
 have hE1 : (elsV (wels [(2, [UInt8.ofNat s]), (23, timeC 0), (48, exsC [exRea r])])).one = true := rfl
 generalize elsV (wels [(2, [UInt8.ofNat s]), (23, timeC 0), (48, exsC [exRea r])]) = Z at *
 generalize entC s [exRea r] = R at *
 clear hTc ew hw1 hw2 hxl hxw
 have v1 := entVR_call r hr (.int .i64 s) (.int .i64 0) (.int .i64 0) (.int .i64 (-1)) J ⟨.int, .int, .int, .int, pJ⟩ ⟨rfl, rfl, rfl, rfl, oJ⟩
 generalize wr 10 [UInt8.ofNat r] = U at *
 generalize wr 48 (exsC [exRea r]) = S at *
 generalize exsC [exRea r] = S1 at *
 refine pcall_body func108 rfl call108 ?_ ?_
 rotate_left 1
 refine awp_slots (s' := (.agg [.int .i64 48, .str R, .str raw] : V) :: (.agg [J] : V) :: zJ 73) rfl ?_; dsimp only [zJ]
 ·repeat' (first | (refine Zu ?_; intro K9 h9; simp (disch := first | exact dd | fail) [hE1, oJ]; refine Zm ?_; ((first | refine Zc ho ?_ | refine Zc hx ?_ | refine acall_mutf n0 rfl (by simp [hp]) (by simp [hp]) (.tup (by simp)) (by simp) ?_ | refine acall_mutf n1 rfl (by simp [hp]) (by simp [hp]) (.tup (by simp)) (by simp) ?_ | refine acall_mutf n2 rfl (by simp [hp]) (by simp [hp]) (.tup (by simp)) (by simp) ?_ | refine acall_mutf n3 rfl (by simp [hp]) (by simp [hp]) .int (by simp) ?_ | refine acall_mutf v1 rfl (by simp [pJ]) (by simp [pJ]) .int (by simp) ?_ | skip) <;> (refine Zf h9 ?_; clear h9 K9))) | refine Zt ?_ | (refine awp_rounds 2 fun KL hL => ?_) | (first | (refine awp_region_any (ops := #[_, _, _, _]) (by decide +kernel) ?_) | (refine aTree_end (by decide +kernel) ?_) | (refine aTree_one 0 _ (by decide +kernel) rfl ?_) | (refine aTree_one 1 _ (by decide +kernel) rfl ?_) | (refine aTree_one 2 _ (by decide +kernel) rfl ?_) | (refine aTree_one 3 _ (by decide +kernel) rfl ?_) | (refine aTree_two 0 1 _ _ (by decide +kernel) rfl rfl ?_ ?_) | (refine aTree_two 0 2 _ _ (by decide +kernel) rfl rfl ?_ ?_) | (refine aTree_two 0 3 _ _ (by decide +kernel) rfl rfl ?_ ?_) | (refine aTree_two 1 2 _ _ (by decide +kernel) rfl rfl ?_ ?_) | (refine aTree_two 1 3 _ _ (by decide +kernel) rfl rfl ?_ ?_) | (refine aTree_two 2 3 _ _ (by decide +kernel) rfl rfl ?_ ?_)) | refine Y8 fun K hK => ?_ | (apply hK; clear hK K) | ((first | refine Zk (ops := #[_, _, _, _]) 0 [0, 1, 0, 0] ?_ | refine Zk 0 [] ?_); refine Zl ?_) | (refine Yb rfl ?_ ?_ <;> intro hcnd <;> (try simp at hcnd) <;> try exact dc) | refine Zx ?_ | clear hK K | (refine hL _ _ _ ?_) | (clear hK K) | (clear hL KL))
  all_goals
   simp
   exact .pure (by simp [pJ])
 ·exact .tup (by simp [pJ])
theorem readEntryI_call (s : Nat) (hs : s < 128) (r : Nat) (hr : r < 128) (v : Bs) (hv : VOk v) (raw : Bs) (J : V) (pJ : J.Pure) (oJ : J.one = true) : PCall prog 108 [.agg [.int .i64 48, .str (entC s [exRea r, exIss v]), .str raw], .agg [J]] (.tup [.agg [.int .i64 s, .int .i64 0, .int .i64 r, .int .i64 (-1), nmV (nm1 v)], .int .i64 0]) := by
 have hw1 := @wr_len 2 [UInt8.ofNat s]
 have hw2 : (wr 23 (timeC 0)).length = 15 := rfl
 have hxl := exsC_len [exRea r, exIss v] (by simp; exact ⟨⟨by simp [exRea], by have := @wr_len 10 [UInt8.ofNat r]; simp [exRea] at *; omega⟩, ⟨by simp [exIss], by have := nmB_len v hv.len; have := @wr_len 164 (nmB v); have := @wr_len 48 (wr 164 (nmB v)); simp [exIss] at *; omega⟩⟩)
 simp only [List.length_cons, List.length_nil] at hxl
 have hxw := @wr_len 48 (exsC [exRea r, exIss v])
 have hx : PCall prog 109 [.str (wr 48 (exsC [exRea r, exIss v]))] (.tup [.sl 2 [.str [50, 46, 53, 46, 50, 57, 46, 50, 49], .bool false, .str (wr 10 [UInt8.ofNat r]), .str [50, 46, 53, 46, 50, 57, 46, 50, 57], .bool true, .str (wr 48 (wr 164 (nmB v)))], .int .i64 0]) := decExts_call [exRea r, exIss v] (by simp) (by simp) (by simp; exact ⟨eok_rea r hr, eok_iss v hv⟩) (dist2 (by simp [exRea, exIss]))
 have ew : wrs [(2, [UInt8.ofNat s]), (23, timeC 0), (48, exsC [exRea r, exIss v])] = entC s [exRea r, exIss v] := by simp [wrs, entC, xsB, timeB]
 have hTc : TcS [(2, [UInt8.ofNat s]), (23, timeC 0), (48, exsC [exRea r, exIss v])] := fun p hp => by
  simp at hp
  rcases hp with rfl | rfl | rfl
  ·exact ⟨⟨by omega, by omega, by omega⟩, by simp⟩
  ·exact ⟨⟨by omega, by omega, by omega⟩, by simp [timeC]⟩
  ·exact ⟨⟨by omega, by omega, by omega⟩, by dsimp only; omega⟩
 have ho := open_call 48 [(2, [UInt8.ofNat s]), (23, timeC 0), (48, exsC [exRea r, exIss v])] hTc (by simp [wrs] at *; omega) raw
 rw [ew] at ho
 have n0 : MCall prog 104 [.ref 0 0] [elsV (wels [(2, [UInt8.ofNat s]), (23, timeC 0), (48, exsC [exRea r, exIss v])]), .int .i64 0] [elsV (wels [(2, [UInt8.ofNat s]), (23, timeC 0), (48, exsC [exRea r, exIss v])]), .int .i64 1] (.tup [.int .i64 s, .int .i64 0]) := integerf_call (wels [(2, [UInt8.ofNat s]), (23, timeC 0), (48, exsC [exRea r, exIss v])]) 0 s (by simp [wels]) hs rfl (by simp [wels])
 have n1 : MCall prog 106 [.ref 0 0] [elsV (wels [(2, [UInt8.ofNat s]), (23, timeC 0), (48, exsC [exRea r, exIss v])]), .int .i64 1] [elsV (wels [(2, [UInt8.ofNat s]), (23, timeC 0), (48, exsC [exRea r, exIss v])]), .int .i64 2] (.tup [.int .i64 0, .int .i64 0]) := timef_call (wels [(2, [UInt8.ofNat s]), (23, timeC 0), (48, exsC [exRea r, exIss v])]) 1 0 (by simp [wels]) (by omega) rfl (by simp [wels])
 have n2 : MCall prog 107 [.ref 0 0, .int .i64 48] [elsV (wels [(2, [UInt8.ofNat s]), (23, timeC 0), (48, exsC [exRea r, exIss v])]), .int .i64 2] [elsV (wels [(2, [UInt8.ofNat s]), (23, timeC 0), (48, exsC [exRea r, exIss v])]), .int .i64 3] (.tup [.agg [.int .i64 48, .str (exsC [exRea r, exIss v]), .str (wr 48 (exsC [exRea r, exIss v]))], .bool true]) := may_call (wels [(2, [UInt8.ofNat s]), (23, timeC 0), (48, exsC [exRea r, exIss v])]) 2 48 (by simp [wels]) rfl (by simp [wels])
 have n3 : MCall prog 61 [.ref 0 0] [elsV (wels [(2, [UInt8.ofNat s]), (23, timeC 0), (48, exsC [exRea r, exIss v])]), .int .i64 3] [elsV (wels [(2, [UInt8.ofNat s]), (23, timeC 0), (48, exsC [exRea r, exIss v])]), .int .i64 3] (.int .i64 0) := endf_call (wels [(2, [UInt8.ofNat s]), (23, timeC 0), (48, exsC [exRea r, exIss v])]) (by simp [wels])
 have hp : (elsV (wels [(2, [UInt8.ofNat s]), (23, timeC 0), (48, exsC [exRea r, exIss v])])).Pure := elsV_pure _
 have hE1 : (elsV (wels [(2, [UInt8.ofNat s]), (23, timeC 0), (48, exsC [exRea r, exIss v])])).one = true := rfl
 generalize elsV (wels [(2, [UInt8.ofNat s]), (23, timeC 0), (48, exsC [exRea r, exIss v])]) = Z at *
 generalize entC s [exRea r, exIss v] = R at *
 clear hTc ew hw1 hw2 hxl hxw
 have v1 := entVR_call r hr (.int .i64 s) (.int .i64 0) (.int .i64 0) (.int .i64 (-1)) J ⟨.int, .int, .int, .int, pJ⟩ ⟨rfl, rfl, rfl, rfl, oJ⟩
 have v2 := entVI_call v hv (.int .i64 s) (.int .i64 0) (.int .i64 r) (.int .i64 (-1)) J ⟨.int, .int, .int, .int, pJ⟩ ⟨rfl, rfl, rfl, rfl, oJ⟩
 have hY : (nmV (nm1 v)).Pure := .sl
 have hY1 : (nmV (nm1 v)).one = true := rfl
 generalize nmV (nm1 v) = Y at *
 generalize wr 48 (wr 164 (nmB v)) = U2 at *
 generalize wr 10 [UInt8.ofNat r] = U at *
 generalize wr 48 (exsC [exRea r, exIss v]) = S at *
 generalize exsC [exRea r, exIss v] = S1 at *
 refine pcall_body func108 rfl call108 ?_ ?_
 rotate_left 1
 refine awp_slots (s' := (.agg [.int .i64 48, .str R, .str raw] : V) :: (.agg [J] : V) :: zJ 73) rfl ?_; dsimp only [zJ]
 ·repeat' (first | (refine Zu ?_; intro K9 h9; simp (disch := first | exact dd | fail) [hE1, oJ, hY1]; refine Zm ?_; ((first | refine Zc ho ?_ | refine Zc hx ?_ | refine acall_mutf n0 rfl (by simp [hp]) (by simp [hp]) (.tup (by simp)) (by simp) ?_ | refine acall_mutf n1 rfl (by simp [hp]) (by simp [hp]) (.tup (by simp)) (by simp) ?_ | refine acall_mutf n2 rfl (by simp [hp]) (by simp [hp]) (.tup (by simp)) (by simp) ?_ | refine acall_mutf n3 rfl (by simp [hp]) (by simp [hp]) .int (by simp) ?_ | refine acall_mutf v1 rfl (by simp [pJ]) (by simp [pJ]) .int (by simp) ?_ | refine acall_mutf v2 rfl (by simp [pJ]) (by simp [hY]) .int (by simp) ?_ | skip) <;> (refine Zf h9 ?_; clear h9 K9))) | refine Zt ?_ | (refine awp_rounds 3 fun KL hL => ?_) | (first | (refine awp_region_any (ops := #[_, _, _, _]) (by decide +kernel) ?_) | (refine aTree_end (by decide +kernel) ?_) | (refine aTree_one 0 _ (by decide +kernel) rfl ?_) | (refine aTree_one 1 _ (by decide +kernel) rfl ?_) | (refine aTree_one 2 _ (by decide +kernel) rfl ?_) | (refine aTree_one 3 _ (by decide +kernel) rfl ?_) | (refine aTree_two 0 1 _ _ (by decide +kernel) rfl rfl ?_ ?_) | (refine aTree_two 0 2 _ _ (by decide +kernel) rfl rfl ?_ ?_) | (refine aTree_two 0 3 _ _ (by decide +kernel) rfl rfl ?_ ?_) | (refine aTree_two 1 2 _ _ (by decide +kernel) rfl rfl ?_ ?_) | (refine aTree_two 1 3 _ _ (by decide +kernel) rfl rfl ?_ ?_) | (refine aTree_two 2 3 _ _ (by decide +kernel) rfl rfl ?_ ?_)) | refine Y8 fun K hK => ?_ | (apply hK; clear hK K) | ((first | refine Zk (ops := #[_, _, _, _]) 0 [0, 1, 0, 0] ?_ | refine Zk 0 [] ?_); refine Zl ?_) | (refine Yb rfl ?_ ?_ <;> intro hcnd <;> (try simp at hcnd) <;> try exact dc) | refine Zx ?_ | clear hK K | (refine hL _ _ _ ?_) | (clear hK K) | (clear hL KL))
  all_goals
   simp
   exact .pure (by simp [pJ, hY])
 ·exact .tup (by simp [pJ, hY])
end Go.Proofs.YtnpndfmbkmbhbaaGreatDoor

