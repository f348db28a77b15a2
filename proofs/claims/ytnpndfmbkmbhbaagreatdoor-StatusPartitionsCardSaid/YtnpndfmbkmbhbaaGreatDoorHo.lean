/-
 ENCODINGS: complete lists read by the reference.
 Conditions: none.
-/
import Derived.Test.YtnpndfmbkmbhbaaGreatDoorHm
set_option maxRecDepth 100000
set_option maxHeartbeats 32000000
set_option linter.all false
namespace Go.Proofs.YtnpndfmbkmbhbaaGreatDoor
open Go.Proofs.Tryz
open Go.VS Go.Der Go.Stp
attribute [local irreducible] arun arunD arunU AWp aend
theorem listTbsN0_call (raw v : Bs) (hv : VOk v) (this next num : Nat) (h1 : this < 10) (h2 : next < 10) (hnum : num < 128) : PCall prog 58 [.agg [.int .i64 48, .str (wrs (tbsP v this next [] (wr 48 (exsC [exNum num])))), .str raw]] (.tup [.agg [.str [], .str raw, nmV (nm1 v), .int .i64 (this : Int), .int .i64 (next : Int), .int .i64 (num : Int), .int .i64 (-1), .str [], .bool false, .nils, .bool false, .bool false, .int .i64 0, .bool false, .nils, .nils, .str []], .int .i64 0]) := by
 have hx : PCall prog 109 [.str (wr 48 (exsC [exNum num]))] (.tup [.sl 1 [.str [50, 46, 53, 46, 50, 57, 46, 50, 48], .bool false, .str (wr 2 [UInt8.ofNat num])], .int .i64 0]) := decExts_call [exNum num] (by simp) (by simp) (by simp; exact eok_num num hnum) (dist1 _)
 have hxl : (exsC [exNum num]).length ≤ 2220 := by
  have h : ∀ p ∈ [exNum num], EOk p := by simp; exact eok_num num hnum
  have := exsC_len [exNum num] fun p hp => ⟨(h p hp).cl, (h p hp).vl⟩
  simpa using Nat.le_trans this (by simp)
 have hxw := @wr_len 48 (exsC [exNum num])
 have hnl := nmB_len v hv.len
 have hnw := @wr_len 48 (nmC v)
 have hnl2 : (wr 48 (nmC v)).length ≤ 120 := hnl
 have l4 : algC.length ≤ 100 := by decide
 have l5 : (wr 48 algC).length ≤ 105 := by decide
 have l6 : (wr 2 [1]).length = 3 := rfl
 have l7 : (wr 23 (timeC this)).length = 15 := rfl
 have l8 : (wr 23 (timeC next)).length = 15 := rfl
 have l9 := @wr_len 160 (wr 48 (exsC [exNum num]))
 have hTc : TcS (tbsP v this next [] (wr 48 (exsC [exNum num]))) := fun p hp => by
  simp [tbsP] at hp
  rcases hp with rfl | rfl | rfl | rfl | rfl | rfl
  ·exact ⟨⟨by omega, by omega, by omega⟩, by simp⟩
  ·exact ⟨⟨by omega, by omega, by omega⟩, by dsimp only; omega⟩
  ·exact ⟨⟨by omega, by omega, by omega⟩, by dsimp only; omega⟩
  ·exact ⟨⟨by omega, by omega, by omega⟩, by simp [timeC]⟩
  ·exact ⟨⟨by omega, by omega, by omega⟩, by simp [timeC]⟩
  ·exact ⟨⟨by omega, by omega, by omega⟩, by dsimp only; omega⟩
 have ho := open_call 48 (tbsP v this next [] (wr 48 (exsC [exNum num]))) hTc (by simp [tbsP, wrs]; omega) raw
 have n0 : MCall prog 104 [.ref 0 0] [elsV (wels (tbsP v this next [] (wr 48 (exsC [exNum num])))), .int .i64 0] [elsV (wels (tbsP v this next [] (wr 48 (exsC [exNum num])))), .int .i64 1] (.tup [.int .i64 1, .int .i64 0]) := integerf_call (wels (tbsP v this next [] (wr 48 (exsC [exNum num])))) 0 1 (by simp [wels, tbsP]) (by omega) rfl (by simp [wels, tbsP])
 have n1 : MCall prog 59 [.ref 0 0] [elsV (wels (tbsP v this next [] (wr 48 (exsC [exNum num])))), .int .i64 1] [elsV (wels (tbsP v this next [] (wr 48 (exsC [exNum num])))), .int .i64 2] (.int .i64 0) := algorithmf_call (wels (tbsP v this next [] (wr 48 (exsC [exNum num])))) 1 (by simp [wels, tbsP]) rfl (by simp [wels, tbsP])
 have n2 : MCall prog 105 [.ref 0 0] [elsV (wels (tbsP v this next [] (wr 48 (exsC [exNum num])))), .int .i64 2] [elsV (wels (tbsP v this next [] (wr 48 (exsC [exNum num])))), .int .i64 3] (.tup [.agg [nmV (nm1 v)], .int .i64 0]) := namef_call (wels (tbsP v this next [] (wr 48 (exsC [exNum num])))) 2 v (by simp [wels, tbsP]) hv.txt hv.len hv.ne rfl (by simp [wels, tbsP])
 have n3 : MCall prog 106 [.ref 0 0] [elsV (wels (tbsP v this next [] (wr 48 (exsC [exNum num])))), .int .i64 3] [elsV (wels (tbsP v this next [] (wr 48 (exsC [exNum num])))), .int .i64 4] (.tup [.int .i64 this, .int .i64 0]) := timef_call (wels (tbsP v this next [] (wr 48 (exsC [exNum num])))) 3 this (by simp [wels, tbsP]) h1 rfl (by simp [wels, tbsP])
 have n4 : MCall prog 106 [.ref 0 0] [elsV (wels (tbsP v this next [] (wr 48 (exsC [exNum num])))), .int .i64 4] [elsV (wels (tbsP v this next [] (wr 48 (exsC [exNum num])))), .int .i64 5] (.tup [.int .i64 next, .int .i64 0]) := timef_call (wels (tbsP v this next [] (wr 48 (exsC [exNum num])))) 4 next (by simp [wels, tbsP]) h2 rfl (by simp [wels, tbsP])
 have n5 : MCall prog 107 [.ref 0 0, .int .i64 48] [elsV (wels (tbsP v this next [] (wr 48 (exsC [exNum num])))), .int .i64 5] [elsV (wels (tbsP v this next [] (wr 48 (exsC [exNum num])))), .int .i64 5] (.tup [.agg [.int .i64 0, .str [], .str []], .bool false]) := mayn_call (wels (tbsP v this next [] (wr 48 (exsC [exNum num])))) 5 48 (by simp [wels, tbsP]) (by simp [wels, tbsP, wel]) (by simp [wels, tbsP])
 have n6 : MCall prog 57 [.ref 0 0, .int .i64 160] [elsV (wels (tbsP v this next [] (wr 48 (exsC [exNum num])))), .int .i64 5] [elsV (wels (tbsP v this next [] (wr 48 (exsC [exNum num])))), .int .i64 6] (.tup [.agg [.int .i64 160, .str (wr 48 (exsC [exNum num])), .str (wr 160 (wr 48 (exsC [exNum num])))], .int .i64 0]) := need_call (wels (tbsP v this next [] (wr 48 (exsC [exNum num])))) 5 160 (by simp [wels, tbsP]) (.inr rfl) (by simp [wels, tbsP])
 have n7 : MCall prog 61 [.ref 0 0] [elsV (wels (tbsP v this next [] (wr 48 (exsC [exNum num])))), .int .i64 6] [elsV (wels (tbsP v this next [] (wr 48 (exsC [exNum num])))), .int .i64 6] (.int .i64 0) := endf_call (wels (tbsP v this next [] (wr 48 (exsC [exNum num])))) (by simp [wels, tbsP])
 have vN := lvalN_call raw this next 0 (-1) 0 false false (nmV (nm1 v)) .nils .sl .nils rfl rfl num hnum
 have hf := find1_call (wr 2 [UInt8.ofNat num])
 have hp : (elsV (wels (tbsP v this next [] (wr 48 (exsC [exNum num]))))).Pure := elsV_pure _
 have hE1 : (elsV (wels (tbsP v this next [] (wr 48 (exsC [exNum num]))))).one = true := rfl
 have hI : (nmV (nm1 v)).Pure := .sl
 have hI1 : (nmV (nm1 v)).one = true := rfl
 clear hTc hxl hxw hnl hnw hnl2 l4 l5 l6 l7 l8 l9
 generalize nmV (nm1 v) = I at *
 generalize elsV (wels (tbsP v this next [] (wr 48 (exsC [exNum num])))) = Z at *
 generalize wrs (tbsP v this next [] (wr 48 (exsC [exNum num]))) = R at *
 generalize wr 2 [UInt8.ofNat num] = U at *
 generalize wr 160 (wr 48 (exsC [exNum num])) = W1 at *
 generalize wr 48 (exsC [exNum num]) = W2 at *
 refine pcall_body func58 rfl call58 ?_ ?_
 rotate_left 1
 refine awp_slots (s' := (.agg [.int .i64 48, .str R, .str raw] : V) :: zJ 167) rfl ?_; dsimp only [zJ]
 ·repeat' (first | (refine Zu ?_; intro K9 h9; simp (disch := first | exact dd | fail) [hE1, hI1]; refine Zm ?_; ((first | refine Zc ho ?_ | refine Zc hx ?_ | refine Zc hf ?_ | refine acall_mutf n0 rfl (by simp [hp]) (by simp [hp]) (.tup (by simp)) (by simp) ?_ | refine acall_mutf n1 rfl (by simp [hp]) (by simp [hp]) .int (by simp) ?_ | refine acall_mutf n3 rfl (by simp [hp]) (by simp [hp]) (.tup (by simp)) (by simp) ?_ | refine acall_mutf n4 rfl (by simp [hp]) (by simp [hp]) (.tup (by simp)) (by simp) ?_ | refine acall_mutf n5 rfl (by simp [hp]) (by simp [hp]) (.tup (by simp)) (by simp) ?_ | refine acall_mutf n6 rfl (by simp [hp]) (by simp [hp]) (.tup (by simp)) (by simp) ?_ | refine acall_mutf n7 rfl (by simp [hp]) (by simp [hp]) .int (by simp) ?_ | refine acall_mutf n2 rfl (by simp [hp]) (by simp [hp]) (.tup (by simp [hI])) (by simp) ?_ | refine acall_mutf vN rfl (by simp [hI]) (by simp [hI]) .int (by simp) ?_ | skip) <;> (refine Zf h9 ?_; clear h9 K9))) | refine Zt ?_ | (refine awp_rounds 4 fun KL hL => ?_) | (first | (refine awp_region_any (ops := #[_, _, _, _]) (by decide +kernel) ?_) | (refine aTree_end (by decide +kernel) ?_) | (refine aTree_one 0 _ (by decide +kernel) rfl ?_) | (refine aTree_one 1 _ (by decide +kernel) rfl ?_) | (refine aTree_one 2 _ (by decide +kernel) rfl ?_) | (refine aTree_one 3 _ (by decide +kernel) rfl ?_) | (refine aTree_two 0 1 _ _ (by decide +kernel) rfl rfl ?_ ?_) | (refine aTree_two 0 2 _ _ (by decide +kernel) rfl rfl ?_ ?_) | (refine aTree_two 0 3 _ _ (by decide +kernel) rfl rfl ?_ ?_) | (refine aTree_two 1 2 _ _ (by decide +kernel) rfl rfl ?_ ?_) | (refine aTree_two 1 3 _ _ (by decide +kernel) rfl rfl ?_ ?_) | (refine aTree_two 2 3 _ _ (by decide +kernel) rfl rfl ?_ ?_)) | refine Y8 fun K hK => ?_ | (apply hK; clear hK K) | ((first | refine Zk (ops := #[_, _, _, _]) 0 [0, 1, 0, 0] ?_ | refine Zk (ops := #[_, _, _, _]) 2 [0, 1, 0, 0] ?_ | refine Zk 0 [] ?_ | refine Zk 2 [] ?_); refine Zl ?_) | (refine Yb rfl ?_ ?_ <;> intro hcnd <;> (try simp at hcnd) <;> try exact dc) | refine Zx ?_ | clear hK K | (refine hL _ _ _ ?_) | (clear hK K) | (clear hL KL))
  all_goals
   simp
   exact .pure (by simp [hI])
 ·exact .tup (by simp [hI])
end Go.Proofs.YtnpndfmbkmbhbaaGreatDoor
namespace Go.Proofs.YtnpndfmbkmbhbaaGreatDoor
open Go.Proofs.Tryz
open Go.VS Go.Der Go.Stp
attribute [local irreducible] arun arunD arunU AWp aend
theorem listTbsD0_call (raw v : Bs) (hv : VOk v) (this next num : Nat) (h1 : this < 10) (h2 : next < 10) (hnum : num < 128) (b : Nat) (hb : b < 128) : PCall prog 58 [.agg [.int .i64 48, .str (wrs (tbsP v this next [] (wr 48 (exsC [exNum num, exDel b])))), .str raw]] (.tup [.agg [.str [], .str raw, nmV (nm1 v), .int .i64 (this : Int), .int .i64 (next : Int), .int .i64 (num : Int), .int .i64 (b : Int), .str [], .bool false, .nils, .bool false, .bool false, .int .i64 0, .bool false, .nils, .nils, .str []], .int .i64 0]) := by
 have hx : PCall prog 109 [.str (wr 48 (exsC [exNum num, exDel b]))] (.tup [.sl 2 [.str [50, 46, 53, 46, 50, 57, 46, 50, 48], .bool false, .str (wr 2 [UInt8.ofNat num]), .str [50, 46, 53, 46, 50, 57, 46, 50, 55], .bool true, .str (wr 2 [UInt8.ofNat b])], .int .i64 0]) := decExts_call [exNum num, exDel b] (by simp) (by simp) (by simp; exact ⟨eok_num num hnum, eok_del b hb⟩) (dist2 (by simp [exNum, exDel]))
 have hxl : (exsC [exNum num, exDel b]).length ≤ 2220 := by
  have h : ∀ p ∈ [exNum num, exDel b], EOk p := by simp; exact ⟨eok_num num hnum, eok_del b hb⟩
  have := exsC_len [exNum num, exDel b] fun p hp => ⟨(h p hp).cl, (h p hp).vl⟩
  simpa using Nat.le_trans this (by simp)
 have hxw := @wr_len 48 (exsC [exNum num, exDel b])
 have hnl := nmB_len v hv.len
 have hnw := @wr_len 48 (nmC v)
 have hnl2 : (wr 48 (nmC v)).length ≤ 120 := hnl
 have l4 : algC.length ≤ 100 := by decide
 have l5 : (wr 48 algC).length ≤ 105 := by decide
 have l6 : (wr 2 [1]).length = 3 := rfl
 have l7 : (wr 23 (timeC this)).length = 15 := rfl
 have l8 : (wr 23 (timeC next)).length = 15 := rfl
 have l9 := @wr_len 160 (wr 48 (exsC [exNum num, exDel b]))
 have hTc : TcS (tbsP v this next [] (wr 48 (exsC [exNum num, exDel b]))) := fun p hp => by
  simp [tbsP] at hp
  rcases hp with rfl | rfl | rfl | rfl | rfl | rfl
  ·exact ⟨⟨by omega, by omega, by omega⟩, by simp⟩
  ·exact ⟨⟨by omega, by omega, by omega⟩, by dsimp only; omega⟩
  ·exact ⟨⟨by omega, by omega, by omega⟩, by dsimp only; omega⟩
  ·exact ⟨⟨by omega, by omega, by omega⟩, by simp [timeC]⟩
  ·exact ⟨⟨by omega, by omega, by omega⟩, by simp [timeC]⟩
  ·exact ⟨⟨by omega, by omega, by omega⟩, by dsimp only; omega⟩
 have ho := open_call 48 (tbsP v this next [] (wr 48 (exsC [exNum num, exDel b]))) hTc (by simp [tbsP, wrs]; omega) raw
 have n0 : MCall prog 104 [.ref 0 0] [elsV (wels (tbsP v this next [] (wr 48 (exsC [exNum num, exDel b])))), .int .i64 0] [elsV (wels (tbsP v this next [] (wr 48 (exsC [exNum num, exDel b])))), .int .i64 1] (.tup [.int .i64 1, .int .i64 0]) := integerf_call (wels (tbsP v this next [] (wr 48 (exsC [exNum num, exDel b])))) 0 1 (by simp [wels, tbsP]) (by omega) rfl (by simp [wels, tbsP])
 have n1 : MCall prog 59 [.ref 0 0] [elsV (wels (tbsP v this next [] (wr 48 (exsC [exNum num, exDel b])))), .int .i64 1] [elsV (wels (tbsP v this next [] (wr 48 (exsC [exNum num, exDel b])))), .int .i64 2] (.int .i64 0) := algorithmf_call (wels (tbsP v this next [] (wr 48 (exsC [exNum num, exDel b])))) 1 (by simp [wels, tbsP]) rfl (by simp [wels, tbsP])
 have n2 : MCall prog 105 [.ref 0 0] [elsV (wels (tbsP v this next [] (wr 48 (exsC [exNum num, exDel b])))), .int .i64 2] [elsV (wels (tbsP v this next [] (wr 48 (exsC [exNum num, exDel b])))), .int .i64 3] (.tup [.agg [nmV (nm1 v)], .int .i64 0]) := namef_call (wels (tbsP v this next [] (wr 48 (exsC [exNum num, exDel b])))) 2 v (by simp [wels, tbsP]) hv.txt hv.len hv.ne rfl (by simp [wels, tbsP])
 have n3 : MCall prog 106 [.ref 0 0] [elsV (wels (tbsP v this next [] (wr 48 (exsC [exNum num, exDel b])))), .int .i64 3] [elsV (wels (tbsP v this next [] (wr 48 (exsC [exNum num, exDel b])))), .int .i64 4] (.tup [.int .i64 this, .int .i64 0]) := timef_call (wels (tbsP v this next [] (wr 48 (exsC [exNum num, exDel b])))) 3 this (by simp [wels, tbsP]) h1 rfl (by simp [wels, tbsP])
 have n4 : MCall prog 106 [.ref 0 0] [elsV (wels (tbsP v this next [] (wr 48 (exsC [exNum num, exDel b])))), .int .i64 4] [elsV (wels (tbsP v this next [] (wr 48 (exsC [exNum num, exDel b])))), .int .i64 5] (.tup [.int .i64 next, .int .i64 0]) := timef_call (wels (tbsP v this next [] (wr 48 (exsC [exNum num, exDel b])))) 4 next (by simp [wels, tbsP]) h2 rfl (by simp [wels, tbsP])
 have n5 : MCall prog 107 [.ref 0 0, .int .i64 48] [elsV (wels (tbsP v this next [] (wr 48 (exsC [exNum num, exDel b])))), .int .i64 5] [elsV (wels (tbsP v this next [] (wr 48 (exsC [exNum num, exDel b])))), .int .i64 5] (.tup [.agg [.int .i64 0, .str [], .str []], .bool false]) := mayn_call (wels (tbsP v this next [] (wr 48 (exsC [exNum num, exDel b])))) 5 48 (by simp [wels, tbsP]) (by simp [wels, tbsP, wel]) (by simp [wels, tbsP])
 have n6 : MCall prog 57 [.ref 0 0, .int .i64 160] [elsV (wels (tbsP v this next [] (wr 48 (exsC [exNum num, exDel b])))), .int .i64 5] [elsV (wels (tbsP v this next [] (wr 48 (exsC [exNum num, exDel b])))), .int .i64 6] (.tup [.agg [.int .i64 160, .str (wr 48 (exsC [exNum num, exDel b])), .str (wr 160 (wr 48 (exsC [exNum num, exDel b])))], .int .i64 0]) := need_call (wels (tbsP v this next [] (wr 48 (exsC [exNum num, exDel b])))) 5 160 (by simp [wels, tbsP]) (.inr rfl) (by simp [wels, tbsP])
 have n7 : MCall prog 61 [.ref 0 0] [elsV (wels (tbsP v this next [] (wr 48 (exsC [exNum num, exDel b])))), .int .i64 6] [elsV (wels (tbsP v this next [] (wr 48 (exsC [exNum num, exDel b])))), .int .i64 6] (.int .i64 0) := endf_call (wels (tbsP v this next [] (wr 48 (exsC [exNum num, exDel b])))) (by simp [wels, tbsP])
 have vN := lvalN_call raw this next 0 (-1) 0 false false (nmV (nm1 v)) .nils .sl .nils rfl rfl num hnum
 have vD := lvalD_call raw this next num (-1) 0 false false (nmV (nm1 v)) .nils .sl .nils rfl rfl b hb
 have hf := find2_call (wr 2 [UInt8.ofNat num]) [50, 46, 53, 46, 50, 57, 46, 50, 55] (wr 2 [UInt8.ofNat b]) true
 have hp : (elsV (wels (tbsP v this next [] (wr 48 (exsC [exNum num, exDel b]))))).Pure := elsV_pure _
 have hE1 : (elsV (wels (tbsP v this next [] (wr 48 (exsC [exNum num, exDel b]))))).one = true := rfl
 have hI : (nmV (nm1 v)).Pure := .sl
 have hI1 : (nmV (nm1 v)).one = true := rfl
 clear hTc hxl hxw hnl hnw hnl2 l4 l5 l6 l7 l8 l9
 generalize nmV (nm1 v) = I at *
 generalize elsV (wels (tbsP v this next [] (wr 48 (exsC [exNum num, exDel b])))) = Z at *
 generalize wrs (tbsP v this next [] (wr 48 (exsC [exNum num, exDel b]))) = R at *
 generalize wr 2 [UInt8.ofNat num] = U at *
 generalize wr 2 [UInt8.ofNat b] = U2 at *
 generalize wr 160 (wr 48 (exsC [exNum num, exDel b])) = W1 at *
 generalize wr 48 (exsC [exNum num, exDel b]) = W2 at *
 refine pcall_body func58 rfl call58 ?_ ?_
 rotate_left 1
 refine awp_slots (s' := (.agg [.int .i64 48, .str R, .str raw] : V) :: zJ 167) rfl ?_; dsimp only [zJ]
 ·repeat' (first | (refine Zu ?_; intro K9 h9; simp (disch := first | exact dd | fail) [hE1, hI1]; refine Zm ?_; ((first | refine Zc ho ?_ | refine Zc hx ?_ | refine Zc hf ?_ | refine acall_mutf n0 rfl (by simp [hp]) (by simp [hp]) (.tup (by simp)) (by simp) ?_ | refine acall_mutf n1 rfl (by simp [hp]) (by simp [hp]) .int (by simp) ?_ | refine acall_mutf n3 rfl (by simp [hp]) (by simp [hp]) (.tup (by simp)) (by simp) ?_ | refine acall_mutf n4 rfl (by simp [hp]) (by simp [hp]) (.tup (by simp)) (by simp) ?_ | refine acall_mutf n5 rfl (by simp [hp]) (by simp [hp]) (.tup (by simp)) (by simp) ?_ | refine acall_mutf n6 rfl (by simp [hp]) (by simp [hp]) (.tup (by simp)) (by simp) ?_ | refine acall_mutf n7 rfl (by simp [hp]) (by simp [hp]) .int (by simp) ?_ | refine acall_mutf n2 rfl (by simp [hp]) (by simp [hp]) (.tup (by simp [hI])) (by simp) ?_ | refine acall_mutf vN rfl (by simp [hI]) (by simp [hI]) .int (by simp) ?_ | refine acall_mutf vD rfl (by simp [hI]) (by simp [hI]) .int (by simp) ?_ | skip) <;> (refine Zf h9 ?_; clear h9 K9))) | refine Zt ?_ | (refine awp_rounds 4 fun KL hL => ?_) | (first | (refine awp_region_any (ops := #[_, _, _, _]) (by decide +kernel) ?_) | (refine aTree_end (by decide +kernel) ?_) | (refine aTree_one 0 _ (by decide +kernel) rfl ?_) | (refine aTree_one 1 _ (by decide +kernel) rfl ?_) | (refine aTree_one 2 _ (by decide +kernel) rfl ?_) | (refine aTree_one 3 _ (by decide +kernel) rfl ?_) | (refine aTree_two 0 1 _ _ (by decide +kernel) rfl rfl ?_ ?_) | (refine aTree_two 0 2 _ _ (by decide +kernel) rfl rfl ?_ ?_) | (refine aTree_two 0 3 _ _ (by decide +kernel) rfl rfl ?_ ?_) | (refine aTree_two 1 2 _ _ (by decide +kernel) rfl rfl ?_ ?_) | (refine aTree_two 1 3 _ _ (by decide +kernel) rfl rfl ?_ ?_) | (refine aTree_two 2 3 _ _ (by decide +kernel) rfl rfl ?_ ?_)) | refine Y8 fun K hK => ?_ | (apply hK; clear hK K) | ((first | refine Zk (ops := #[_, _, _, _]) 0 [0, 1, 0, 0] ?_ | refine Zk (ops := #[_, _, _, _]) 2 [0, 1, 0, 0] ?_ | refine Zk 0 [] ?_ | refine Zk 2 [] ?_); refine Zl ?_) | (refine Yb rfl ?_ ?_ <;> intro hcnd <;> (try simp at hcnd) <;> try exact dc) | refine Zx ?_ | clear hK K | (refine hL _ _ _ ?_) | (clear hK K) | (clear hL KL))
  all_goals
   simp
   exact .pure (by simp [hI])
 ·exact .tup (by simp [hI])
end Go.Proofs.YtnpndfmbkmbhbaaGreatDoor
namespace Go.Proofs.YtnpndfmbkmbhbaaGreatDoor
open Go.Proofs.Tryz
open Go.VS Go.Der Go.Stp
attribute [local irreducible] arun arunD arunU AWp aend
theorem listTbsP0_call (raw v : Bs) (hv : VOk v) (this next num : Nat) (h1 : this < 10) (h2 : next < 10) (hnum : num < 128) (c : Bs) (hcl : c.length ≤ 100) (hok : EOk (exPnt c)) (rea : Int) (ind : Bool) (hrs : PCall prog 149 [.str (wr 48 c)] (.tup [.agg [.nils, .bool false, .bool false, .int .i64 rea, .bool ind], .int .i64 0])) : PCall prog 58 [.agg [.int .i64 48, .str (wrs (tbsP v this next [] (wr 48 (exsC [exNum num, exPnt c])))), .str raw]] (.tup [.agg [.str [], .str raw, nmV (nm1 v), .int .i64 (this : Int), .int .i64 (next : Int), .int .i64 (num : Int), .int .i64 (-1), .str [], .bool true, .nils, .bool false, .bool false, .int .i64 rea, .bool ind, .nils, .nils, .str []], .int .i64 0]) := by
 have hx : PCall prog 109 [.str (wr 48 (exsC [exNum num, exPnt c]))] (.tup [.sl 2 [.str [50, 46, 53, 46, 50, 57, 46, 50, 48], .bool false, .str (wr 2 [UInt8.ofNat num]), .str [50, 46, 53, 46, 50, 57, 46, 50, 56], .bool true, .str (wr 48 c)], .int .i64 0]) := decExts_call [exNum num, exPnt c] (by simp) (by simp) (by simp; exact ⟨eok_num num hnum, hok⟩) (dist2 (by simp [exNum, exPnt]))
 have hxl : (exsC [exNum num, exPnt c]).length ≤ 2220 := by
  have h : ∀ p ∈ [exNum num, exPnt c], EOk p := by simp; exact ⟨eok_num num hnum, hok⟩
  have := exsC_len [exNum num, exPnt c] fun p hp => ⟨(h p hp).cl, (h p hp).vl⟩
  simpa using Nat.le_trans this (by simp)
 have hxw := @wr_len 48 (exsC [exNum num, exPnt c])
 have hnl := nmB_len v hv.len
 have hnw := @wr_len 48 (nmC v)
 have hnl2 : (wr 48 (nmC v)).length ≤ 120 := hnl
 have l4 : algC.length ≤ 100 := by decide
 have l5 : (wr 48 algC).length ≤ 105 := by decide
 have l6 : (wr 2 [1]).length = 3 := rfl
 have l7 : (wr 23 (timeC this)).length = 15 := rfl
 have l8 : (wr 23 (timeC next)).length = 15 := rfl
 have l9 := @wr_len 160 (wr 48 (exsC [exNum num, exPnt c]))
 have hTc : TcS (tbsP v this next [] (wr 48 (exsC [exNum num, exPnt c]))) := fun p hp => by
  simp [tbsP] at hp
  rcases hp with rfl | rfl | rfl | rfl | rfl | rfl
  ·exact ⟨⟨by omega, by omega, by omega⟩, by simp⟩
  ·exact ⟨⟨by omega, by omega, by omega⟩, by dsimp only; omega⟩
  ·exact ⟨⟨by omega, by omega, by omega⟩, by dsimp only; omega⟩
  ·exact ⟨⟨by omega, by omega, by omega⟩, by simp [timeC]⟩
  ·exact ⟨⟨by omega, by omega, by omega⟩, by simp [timeC]⟩
  ·exact ⟨⟨by omega, by omega, by omega⟩, by dsimp only; omega⟩
 have ho := open_call 48 (tbsP v this next [] (wr 48 (exsC [exNum num, exPnt c]))) hTc (by simp [tbsP, wrs]; omega) raw
 have n0 : MCall prog 104 [.ref 0 0] [elsV (wels (tbsP v this next [] (wr 48 (exsC [exNum num, exPnt c])))), .int .i64 0] [elsV (wels (tbsP v this next [] (wr 48 (exsC [exNum num, exPnt c])))), .int .i64 1] (.tup [.int .i64 1, .int .i64 0]) := integerf_call (wels (tbsP v this next [] (wr 48 (exsC [exNum num, exPnt c])))) 0 1 (by simp [wels, tbsP]) (by omega) rfl (by simp [wels, tbsP])
 have n1 : MCall prog 59 [.ref 0 0] [elsV (wels (tbsP v this next [] (wr 48 (exsC [exNum num, exPnt c])))), .int .i64 1] [elsV (wels (tbsP v this next [] (wr 48 (exsC [exNum num, exPnt c])))), .int .i64 2] (.int .i64 0) := algorithmf_call (wels (tbsP v this next [] (wr 48 (exsC [exNum num, exPnt c])))) 1 (by simp [wels, tbsP]) rfl (by simp [wels, tbsP])
 have n2 : MCall prog 105 [.ref 0 0] [elsV (wels (tbsP v this next [] (wr 48 (exsC [exNum num, exPnt c])))), .int .i64 2] [elsV (wels (tbsP v this next [] (wr 48 (exsC [exNum num, exPnt c])))), .int .i64 3] (.tup [.agg [nmV (nm1 v)], .int .i64 0]) := namef_call (wels (tbsP v this next [] (wr 48 (exsC [exNum num, exPnt c])))) 2 v (by simp [wels, tbsP]) hv.txt hv.len hv.ne rfl (by simp [wels, tbsP])
 have n3 : MCall prog 106 [.ref 0 0] [elsV (wels (tbsP v this next [] (wr 48 (exsC [exNum num, exPnt c])))), .int .i64 3] [elsV (wels (tbsP v this next [] (wr 48 (exsC [exNum num, exPnt c])))), .int .i64 4] (.tup [.int .i64 this, .int .i64 0]) := timef_call (wels (tbsP v this next [] (wr 48 (exsC [exNum num, exPnt c])))) 3 this (by simp [wels, tbsP]) h1 rfl (by simp [wels, tbsP])
 have n4 : MCall prog 106 [.ref 0 0] [elsV (wels (tbsP v this next [] (wr 48 (exsC [exNum num, exPnt c])))), .int .i64 4] [elsV (wels (tbsP v this next [] (wr 48 (exsC [exNum num, exPnt c])))), .int .i64 5] (.tup [.int .i64 next, .int .i64 0]) := timef_call (wels (tbsP v this next [] (wr 48 (exsC [exNum num, exPnt c])))) 4 next (by simp [wels, tbsP]) h2 rfl (by simp [wels, tbsP])
 have n5 : MCall prog 107 [.ref 0 0, .int .i64 48] [elsV (wels (tbsP v this next [] (wr 48 (exsC [exNum num, exPnt c])))), .int .i64 5] [elsV (wels (tbsP v this next [] (wr 48 (exsC [exNum num, exPnt c])))), .int .i64 5] (.tup [.agg [.int .i64 0, .str [], .str []], .bool false]) := mayn_call (wels (tbsP v this next [] (wr 48 (exsC [exNum num, exPnt c])))) 5 48 (by simp [wels, tbsP]) (by simp [wels, tbsP, wel]) (by simp [wels, tbsP])
 have n6 : MCall prog 57 [.ref 0 0, .int .i64 160] [elsV (wels (tbsP v this next [] (wr 48 (exsC [exNum num, exPnt c])))), .int .i64 5] [elsV (wels (tbsP v this next [] (wr 48 (exsC [exNum num, exPnt c])))), .int .i64 6] (.tup [.agg [.int .i64 160, .str (wr 48 (exsC [exNum num, exPnt c])), .str (wr 160 (wr 48 (exsC [exNum num, exPnt c])))], .int .i64 0]) := need_call (wels (tbsP v this next [] (wr 48 (exsC [exNum num, exPnt c])))) 5 160 (by simp [wels, tbsP]) (.inr rfl) (by simp [wels, tbsP])
 have n7 : MCall prog 61 [.ref 0 0] [elsV (wels (tbsP v this next [] (wr 48 (exsC [exNum num, exPnt c])))), .int .i64 6] [elsV (wels (tbsP v this next [] (wr 48 (exsC [exNum num, exPnt c])))), .int .i64 6] (.int .i64 0) := endf_call (wels (tbsP v this next [] (wr 48 (exsC [exNum num, exPnt c])))) (by simp [wels, tbsP])
 have vN := lvalN_call raw this next 0 (-1) 0 false false (nmV (nm1 v)) .nils .sl .nils rfl rfl num hnum
 have vP := lvalP_call raw this next num (-1) 0 false false (nmV (nm1 v)) .nils .sl .nils rfl rfl (wr 48 c) rea ind hrs
 have hf := find2_call (wr 2 [UInt8.ofNat num]) [50, 46, 53, 46, 50, 57, 46, 50, 56] (wr 48 c) true
 have hp : (elsV (wels (tbsP v this next [] (wr 48 (exsC [exNum num, exPnt c]))))).Pure := elsV_pure _
 have hE1 : (elsV (wels (tbsP v this next [] (wr 48 (exsC [exNum num, exPnt c]))))).one = true := rfl
 have hI : (nmV (nm1 v)).Pure := .sl
 have hI1 : (nmV (nm1 v)).one = true := rfl
 clear hTc hxl hxw hnl hnw hnl2 l4 l5 l6 l7 l8 l9
 generalize nmV (nm1 v) = I at *
 generalize elsV (wels (tbsP v this next [] (wr 48 (exsC [exNum num, exPnt c])))) = Z at *
 generalize wrs (tbsP v this next [] (wr 48 (exsC [exNum num, exPnt c]))) = R at *
 generalize wr 2 [UInt8.ofNat num] = U at *
 clear hok
 generalize wr 48 c = U2 at *
 generalize wr 160 (wr 48 (exsC [exNum num, exPnt c])) = W1 at *
 generalize wr 48 (exsC [exNum num, exPnt c]) = W2 at *
 refine pcall_body func58 rfl call58 ?_ ?_
 rotate_left 1
 refine awp_slots (s' := (.agg [.int .i64 48, .str R, .str raw] : V) :: zJ 167) rfl ?_; dsimp only [zJ]
 ·repeat' (first | (refine Zu ?_; intro K9 h9; simp (disch := first | exact dd | fail) [hE1, hI1]; refine Zm ?_; ((first | refine Zc ho ?_ | refine Zc hx ?_ | refine Zc hf ?_ | refine acall_mutf n0 rfl (by simp [hp]) (by simp [hp]) (.tup (by simp)) (by simp) ?_ | refine acall_mutf n1 rfl (by simp [hp]) (by simp [hp]) .int (by simp) ?_ | refine acall_mutf n3 rfl (by simp [hp]) (by simp [hp]) (.tup (by simp)) (by simp) ?_ | refine acall_mutf n4 rfl (by simp [hp]) (by simp [hp]) (.tup (by simp)) (by simp) ?_ | refine acall_mutf n5 rfl (by simp [hp]) (by simp [hp]) (.tup (by simp)) (by simp) ?_ | refine acall_mutf n6 rfl (by simp [hp]) (by simp [hp]) (.tup (by simp)) (by simp) ?_ | refine acall_mutf n7 rfl (by simp [hp]) (by simp [hp]) .int (by simp) ?_ | refine acall_mutf n2 rfl (by simp [hp]) (by simp [hp]) (.tup (by simp [hI])) (by simp) ?_ | refine acall_mutf vN rfl (by simp [hI]) (by simp [hI]) .int (by simp) ?_ | refine acall_mutf vP rfl (by simp [hI]) (by simp [hI]) .int (by simp) ?_ | skip) <;> (refine Zf h9 ?_; clear h9 K9))) | refine Zt ?_ | (refine awp_rounds 4 fun KL hL => ?_) | (first | (refine awp_region_any (ops := #[_, _, _, _]) (by decide +kernel) ?_) | (refine aTree_end (by decide +kernel) ?_) | (refine aTree_one 0 _ (by decide +kernel) rfl ?_) | (refine aTree_one 1 _ (by decide +kernel) rfl ?_) | (refine aTree_one 2 _ (by decide +kernel) rfl ?_) | (refine aTree_one 3 _ (by decide +kernel) rfl ?_) | (refine aTree_two 0 1 _ _ (by decide +kernel) rfl rfl ?_ ?_) | (refine aTree_two 0 2 _ _ (by decide +kernel) rfl rfl ?_ ?_) | (refine aTree_two 0 3 _ _ (by decide +kernel) rfl rfl ?_ ?_) | (refine aTree_two 1 2 _ _ (by decide +kernel) rfl rfl ?_ ?_) | (refine aTree_two 1 3 _ _ (by decide +kernel) rfl rfl ?_ ?_) | (refine aTree_two 2 3 _ _ (by decide +kernel) rfl rfl ?_ ?_)) | refine Y8 fun K hK => ?_ | (apply hK; clear hK K) | ((first | refine Zk (ops := #[_, _, _, _]) 0 [0, 1, 0, 0] ?_ | refine Zk (ops := #[_, _, _, _]) 2 [0, 1, 0, 0] ?_ | refine Zk 0 [] ?_ | refine Zk 2 [] ?_); refine Zl ?_) | (refine Yb rfl ?_ ?_ <;> intro hcnd <;> (try simp at hcnd) <;> try exact dc) | refine Zx ?_ | clear hK K | (refine hL _ _ _ ?_) | (clear hK K) | (clear hL KL))
  all_goals
   simp
   exact .pure (by simp [hI])
 ·exact .tup (by simp [hI])
end Go.Proofs.YtnpndfmbkmbhbaaGreatDoor
