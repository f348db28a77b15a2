/-
 ENCODINGS: scopes read by the reference.
 Conditions: none.
-/
import Derived.Test.YtnpndfmbkmbhbaaGreatDoorHl
set_option maxRecDepth 100000
set_option maxHeartbeats 32000000
set_option linter.all false
namespace Go.Proofs.YtnpndfmbkmbhbaaGreatDoor
open Go.Proofs.Tryz
open Go.VS Go.Der Go.Stp
attribute [local irreducible] arun arunD arunU AWp aend
theorem bigInt_call (tag : Int) (k : Nat) (ht : TagOk tag) (hk : k < 128) : PCall prog 148 [.str (wr tag [UInt8.ofNat k]), .int .i64 tag] (.tup [.int .i64 k, .int .i64 0]) := by
 have hw := whole_call tag [UInt8.ofNat k] ht (by simp)
 have hi := integer_call k hk
 unfold wel El.c at hw
 dsimp only at hw
 generalize wr tag [UInt8.ofNat k] = R at *
 generalize [UInt8.ofNat k] = C at *
 refine pcall_body func148 rfl call148 ?_ ?_
 rotate_left 1
 refine awp_slots (s' := (.str R : V) :: (.int .i64 tag : V) :: zJ 20) rfl ?_; dsimp only [zJ]
 ·repeat' (first | (refine Zu ?_; intro K9 h9; refine Zd ?_; ((first | refine Ap hw ?_ | refine Ap hi ?_ | skip) <;> (refine Zf h9 ?_; clear h9 K9))) | refine Zt ?_ | refine Y8 fun K hK => ?_ | (apply hK; clear hK K) | (refine Yb rfl ?_ ?_ <;> intro hcnd <;> (try simp at hcnd) <;> try exact dc) | refine Zx ?_ | clear hK K)
  exact .pure (by simp)
 ·exact .tup (by simp)
theorem open14_call (l : List (Int × Bs)) (h : TcS l) (hn : (wrs l).length < 65536) : PCall prog 56 [.str (wr 48 (wrs l))] (.tup [.agg [elsV (wels l), .int .i64 0], .int .i64 0]) := by
 have hw := whole_call 48 (wrs l) ⟨by omega, by omega, by omega⟩ hn
 have ho := open_call 48 l h (by omega) (wr 48 (wrs l))
 have hp : (elsV (wels l)).Pure := elsV_pure _
 have hE1 : (elsV (wels l)).one = true := rfl
 unfold wel El.c at hw
 dsimp only at hw
 generalize wr 48 (wrs l) = R at *
 generalize wrs l = C at *
 generalize elsV (wels l) = E at *
 refine pcall_body func56 rfl call56 ?_ ?_
 rotate_left 1
 refine awp_slots (s' := (.str R : V) :: zJ 18) rfl ?_; dsimp only [zJ]
 ·repeat' (first | (refine Zu ?_; intro K9 h9; simp (disch := first | exact dd | fail) [hE1]; refine Zm ?_; ((first | refine Ap hw ?_ | refine Ap ho ?_ | skip) <;> (refine Zf h9 ?_; clear h9 K9))) | refine Zt ?_ | refine Y8 fun K hK => ?_ | (apply hK; clear hK K) | (refine Yb rfl ?_ ?_ <;> intro hcnd <;> (try simp at hcnd) <;> try exact dc) | refine Zx ?_ | clear hK K)
  simp
  exact .pure (by simp [hp])
 ·exact .tup (by simp [hp])
theorem optNames_call (l : List El) (i : Nat) (hm : MCall prog 107 [.ref 0 0, .int .i64 160] (fldR l i) (fldR l i) (.tup [.agg [.int .i64 0, .str [], .str []], .bool false])) : MCall prog 178 [.ref 0 0] (fldR l i) (fldR l i) (.tup [.nils, .int .i64 0]) := by
 have hp1 := fldR_pures l i
 generalize fldR l i = r1 at *
 refine mcall_body func178 rfl call178 ?_ ?_ ?_
 rotate_left 2
 refine awp_slots (s' := (.ref 0 0 : V) :: zJ 28) rfl ?_; dsimp only [zJ]
 ·repeat' (first | (refine Zu ?_; intro K9 h9; refine Zd ?_; ((first | refine acall_mutf hm rfl hp1 hp1 (.tup (by simp)) (by simp) ?_ | skip) <;> (refine Zf h9 ?_; clear h9 K9))) | refine Zt ?_ | refine Y8 fun K hK => ?_ | (apply hK; clear hK K) | (refine Yb rfl ?_ ?_ <;> intro hcnd <;> (try simp at hcnd) <;> try exact dc) | refine Zx ?_ | clear hK K)
  simp
  exact mend_plain
 ·exact .tup (by simp)
 ·exact hp1
theorem optMaskF_call (l : List El) (i : Nat) (t : Int) (hm : MCall prog 107 [.ref 0 0, .int .i64 t] (fldR l i) (fldR l i) (.tup [.agg [.int .i64 0, .str [], .str []], .bool false])) : MCall prog 179 [.ref 0 0, .int .i64 t] (fldR l i) (fldR l i) (.tup [.int .i64 0, .int .i64 0]) := by
 have hp1 := fldR_pures l i
 generalize fldR l i = r1 at *
 refine mcall_body func179 rfl call179 ?_ ?_ ?_
 rotate_left 2
 refine awp_slots (s' := (.ref 0 0 : V) :: (.int .i64 t : V) :: zJ 19) rfl ?_; dsimp only [zJ]
 ·repeat' (first | (refine Zu ?_; intro K9 h9; refine Zd ?_; ((first | refine acall_mutf hm rfl hp1 hp1 (.tup (by simp)) (by simp) ?_ | skip) <;> (refine Zf h9 ?_; clear h9 K9))) | refine Zt ?_ | refine Y8 fun K hK => ?_ | (apply hK; clear hK K) | (refine Yb rfl ?_ ?_ <;> intro hcnd <;> (try simp at hcnd) <;> try exact dc) | refine Zx ?_ | clear hK K)
  simp
  exact mend_plain
 ·exact .tup (by simp)
 ·exact hp1
theorem optMaskT_call (l : List El) (i : Nat) (t r : Int) (c : Bs) (hi : i < l.length) (hx : l[i] = wel t c) (hl : l.length ≤ 1000000) (hk : PCall prog 213 [.str c] (.tup [.int .i64 r, .int .i64 0])) : MCall prog 179 [.ref 0 0, .int .i64 t] (fldR l i) (fldR l (i + 1)) (.tup [.int .i64 r, .int .i64 0]) := by
 have hn := may_call l i t hi (by rw [hx]; rfl) hl
 rw [hx] at hn
 have hp1 := fldR_pures l i
 have hp2 := fldR_pures l (i + 1)
 unfold wel El.c at hn
 dsimp only at hn
 generalize wr t c = raw at *
 generalize fldR l i = r1 at *
 generalize fldR l (i + 1) = r2 at *
 refine mcall_body func179 rfl call179 ?_ ?_ ?_
 rotate_left 2
 refine awp_slots (s' := (.ref 0 0 : V) :: (.int .i64 t : V) :: zJ 19) rfl ?_; dsimp only [zJ]
 ·repeat' (first | (refine Zu ?_; intro K9 h9; refine Zd ?_; ((first | refine Ap hk ?_ | refine acall_mutf hn rfl hp1 hp2 (.tup (by simp)) (by simp) ?_ | skip) <;> (refine Zf h9 ?_; clear h9 K9))) | refine Zt ?_ | refine Y8 fun K hK => ?_ | (apply hK; clear hK K) | (refine Yb rfl ?_ ?_ <;> intro hcnd <;> (try simp at hcnd) <;> try exact dc) | refine Zx ?_ | clear hK K)
  simp
  exact mend_plain
 ·exact .tup (by simp)
 ·exact hp2
theorem readScopeR_call (c : Bs) (r : Int) (hc : c.length ≤ 100) (hk : PCall prog 213 [.str c] (.tup [.int .i64 r, .int .i64 0])) : PCall prog 149 [.str (wr 48 (wr 131 c))] (.tup [.agg [.nils, .bool false, .bool false, .int .i64 r, .bool false], .int .i64 0]) := by
 have hw := @wr_len 131 c
 have ho := open14_call [(131, c)] (tc1 ⟨by omega, by omega, by omega⟩ (by omega)) (by rw [wrs1]; omega)
 rw [wrs1] at ho
 obtain ⟨Z, hZ⟩ : ∃ Z, elsV (wels [(131, c)]) = Z := ⟨_, rfl⟩
 have n0 : MCall prog 178 [.ref 0 0] [elsV (wels [(131, c)]), .int .i64 0] [elsV (wels [(131, c)]), .int .i64 0] (.tup [.nils, .int .i64 0]) := optNames_call (wels [(131, c)]) 0 (mayn_call (wels [(131, c)]) 0 160 (by simp [wels]) (by simp [wels, wel]) (by simp [wels]))
 have n1 : MCall prog 177 [.ref 0 0, .int .i64 129] [elsV (wels [(131, c)]), .int .i64 0] [elsV (wels [(131, c)]), .int .i64 0] (.tup [.bool false, .int .i64 0]) := flagF_call (wels [(131, c)]) 0 129 (mayn_call (wels [(131, c)]) 0 129 (by simp [wels]) (by simp [wels, wel]) (by simp [wels]))
 have n2 : MCall prog 177 [.ref 0 0, .int .i64 130] [elsV (wels [(131, c)]), .int .i64 0] [elsV (wels [(131, c)]), .int .i64 0] (.tup [.bool false, .int .i64 0]) := flagF_call (wels [(131, c)]) 0 130 (mayn_call (wels [(131, c)]) 0 130 (by simp [wels]) (by simp [wels, wel]) (by simp [wels]))
 have n3 : MCall prog 179 [.ref 0 0, .int .i64 131] [elsV (wels [(131, c)]), .int .i64 0] [elsV (wels [(131, c)]), .int .i64 1] (.tup [.int .i64 r, .int .i64 0]) := optMaskT_call (wels [(131, c)]) 0 131 r c (by simp [wels]) rfl (by simp [wels]) hk
 have n4 : MCall prog 177 [.ref 0 0, .int .i64 132] [elsV (wels [(131, c)]), .int .i64 1] [elsV (wels [(131, c)]), .int .i64 1] (.tup [.bool false, .int .i64 0]) := flagF_call (wels [(131, c)]) 1 132 (maye_call (wels [(131, c)]) 132 (by simp [wels]))
 have n5 : MCall prog 61 [.ref 0 0] [elsV (wels [(131, c)]), .int .i64 1] [elsV (wels [(131, c)]), .int .i64 1] (.int .i64 0) := endf_call (wels [(131, c)]) (by simp [wels])
 have hp : (elsV (wels [(131, c)])).Pure := elsV_pure _
 have hE1 : (elsV (wels [(131, c)])).one = true := rfl
 clear hw
 simp only [hZ] at *
 generalize wr 48 (wr 131 c) = R at *
 refine pcall_body func149 rfl call149 ?_ ?_
 rotate_left 1
 refine awp_slots (s' := (.str R : V) :: zJ 63) rfl ?_; dsimp only [zJ]
 ·repeat' (first | (refine Zu ?_; intro K9 h9; simp (disch := first | exact dd | fail) [hE1]; refine Zm ?_; ((first | refine Zc ho ?_ | refine acall_mutf n0 rfl (by simp [hp]) (by simp [hp]) (.tup (by simp)) (by simp) ?_ | refine acall_mutf n1 rfl (by simp [hp]) (by simp [hp]) (.tup (by simp)) (by simp) ?_ | refine acall_mutf n2 rfl (by simp [hp]) (by simp [hp]) (.tup (by simp)) (by simp) ?_ | refine acall_mutf n3 rfl (by simp [hp]) (by simp [hp]) (.tup (by simp)) (by simp) ?_ | refine acall_mutf n4 rfl (by simp [hp]) (by simp [hp]) (.tup (by simp)) (by simp) ?_ | refine acall_mutf n5 rfl (by simp [hp]) (by simp [hp]) .int (by simp) ?_ | skip) <;> (refine Zf h9 ?_; clear h9 K9))) | refine Zt ?_ | (first | (refine awp_region_any (ops := #[_, _, _, _]) (by decide +kernel) ?_) | (refine aTree_end (by decide +kernel) ?_) | (refine aTree_one 0 _ (by decide +kernel) rfl ?_) | (refine aTree_one 1 _ (by decide +kernel) rfl ?_) | (refine aTree_one 2 _ (by decide +kernel) rfl ?_) | (refine aTree_one 3 _ (by decide +kernel) rfl ?_) | (refine aTree_two 0 1 _ _ (by decide +kernel) rfl rfl ?_ ?_) | (refine aTree_two 0 2 _ _ (by decide +kernel) rfl rfl ?_ ?_) | (refine aTree_two 0 3 _ _ (by decide +kernel) rfl rfl ?_ ?_) | (refine aTree_two 1 2 _ _ (by decide +kernel) rfl rfl ?_ ?_) | (refine aTree_two 1 3 _ _ (by decide +kernel) rfl rfl ?_ ?_) | (refine aTree_two 2 3 _ _ (by decide +kernel) rfl rfl ?_ ?_)) | refine Y8 fun K hK => ?_ | (apply hK; clear hK K) | ((first | refine Zk (ops := #[_, _, _, _]) 0 [0, 1, 0, 0] ?_ | refine Zk 0 [] ?_); refine Zl ?_) | (refine Yb rfl ?_ ?_ <;> intro hcnd <;> (try simp at hcnd) <;> try exact dc) | refine Zx ?_ | clear hK K)
  all_goals
   simp
   exact .pure (by simp)
 ·exact .tup (by simp)
theorem readScopeI_call : PCall prog 149 [.str (wr 48 (wr 132 [255]))] (.tup [.agg [.nils, .bool false, .bool false, .int .i64 0, .bool true], .int .i64 0]) := by
 have hw := @wr_len 132 [255]
 have ho := open14_call [(132, [255])] (tc1 ⟨by omega, by omega, by omega⟩ (by simp)) (by rw [wrs1]; simp at hw; omega)
 rw [wrs1] at ho
 obtain ⟨Z, hZ⟩ : ∃ Z, elsV (wels [(132, [255])]) = Z := ⟨_, rfl⟩
 have n0 : MCall prog 178 [.ref 0 0] [elsV (wels [(132, [255])]), .int .i64 0] [elsV (wels [(132, [255])]), .int .i64 0] (.tup [.nils, .int .i64 0]) := optNames_call (wels [(132, [255])]) 0 (mayn_call (wels [(132, [255])]) 0 160 (by simp [wels]) (by simp [wels, wel]) (by simp [wels]))
 have n1 : MCall prog 177 [.ref 0 0, .int .i64 129] [elsV (wels [(132, [255])]), .int .i64 0] [elsV (wels [(132, [255])]), .int .i64 0] (.tup [.bool false, .int .i64 0]) := flagF_call (wels [(132, [255])]) 0 129 (mayn_call (wels [(132, [255])]) 0 129 (by simp [wels]) (by simp [wels, wel]) (by simp [wels]))
 have n2 : MCall prog 177 [.ref 0 0, .int .i64 130] [elsV (wels [(132, [255])]), .int .i64 0] [elsV (wels [(132, [255])]), .int .i64 0] (.tup [.bool false, .int .i64 0]) := flagF_call (wels [(132, [255])]) 0 130 (mayn_call (wels [(132, [255])]) 0 130 (by simp [wels]) (by simp [wels, wel]) (by simp [wels]))
 have n3 : MCall prog 179 [.ref 0 0, .int .i64 131] [elsV (wels [(132, [255])]), .int .i64 0] [elsV (wels [(132, [255])]), .int .i64 0] (.tup [.int .i64 0, .int .i64 0]) := optMaskF_call (wels [(132, [255])]) 0 131 (mayn_call (wels [(132, [255])]) 0 131 (by simp [wels]) (by simp [wels, wel]) (by simp [wels]))
 have n4 : MCall prog 177 [.ref 0 0, .int .i64 132] [elsV (wels [(132, [255])]), .int .i64 0] [elsV (wels [(132, [255])]), .int .i64 1] (.tup [.bool true, .int .i64 0]) := flagT_call (wels [(132, [255])]) 0 132 (by simp [wels]) rfl (by simp [wels])
 have n5 : MCall prog 61 [.ref 0 0] [elsV (wels [(132, [255])]), .int .i64 1] [elsV (wels [(132, [255])]), .int .i64 1] (.int .i64 0) := endf_call (wels [(132, [255])]) (by simp [wels])
 have hp : (elsV (wels [(132, [255])])).Pure := elsV_pure _
 have hE1 : (elsV (wels [(132, [255])])).one = true := rfl
 clear hw
 simp only [hZ] at *
 generalize wr 48 (wr 132 [255]) = R at *
 refine pcall_body func149 rfl call149 ?_ ?_
 rotate_left 1
 refine awp_slots (s' := (.str R : V) :: zJ 63) rfl ?_; dsimp only [zJ]
 ·repeat' (first | (refine Zu ?_; intro K9 h9; simp (disch := first | exact dd | fail) [hE1]; refine Zm ?_; ((first | refine Zc ho ?_ | refine acall_mutf n0 rfl (by simp [hp]) (by simp [hp]) (.tup (by simp)) (by simp) ?_ | refine acall_mutf n1 rfl (by simp [hp]) (by simp [hp]) (.tup (by simp)) (by simp) ?_ | refine acall_mutf n2 rfl (by simp [hp]) (by simp [hp]) (.tup (by simp)) (by simp) ?_ | refine acall_mutf n3 rfl (by simp [hp]) (by simp [hp]) (.tup (by simp)) (by simp) ?_ | refine acall_mutf n4 rfl (by simp [hp]) (by simp [hp]) (.tup (by simp)) (by simp) ?_ | refine acall_mutf n5 rfl (by simp [hp]) (by simp [hp]) .int (by simp) ?_ | skip) <;> (refine Zf h9 ?_; clear h9 K9))) | refine Zt ?_ | (first | (refine awp_region_any (ops := #[_, _, _, _]) (by decide +kernel) ?_) | (refine aTree_end (by decide +kernel) ?_) | (refine aTree_one 0 _ (by decide +kernel) rfl ?_) | (refine aTree_one 1 _ (by decide +kernel) rfl ?_) | (refine aTree_one 2 _ (by decide +kernel) rfl ?_) | (refine aTree_one 3 _ (by decide +kernel) rfl ?_) | (refine aTree_two 0 1 _ _ (by decide +kernel) rfl rfl ?_ ?_) | (refine aTree_two 0 2 _ _ (by decide +kernel) rfl rfl ?_ ?_) | (refine aTree_two 0 3 _ _ (by decide +kernel) rfl rfl ?_ ?_) | (refine aTree_two 1 2 _ _ (by decide +kernel) rfl rfl ?_ ?_) | (refine aTree_two 1 3 _ _ (by decide +kernel) rfl rfl ?_ ?_) | (refine aTree_two 2 3 _ _ (by decide +kernel) rfl rfl ?_ ?_)) | refine Y8 fun K hK => ?_ | (apply hK; clear hK K) | ((first | refine Zk (ops := #[_, _, _, _]) 0 [0, 1, 0, 0] ?_ | refine Zk 0 [] ?_); refine Zl ?_) | (refine Yb rfl ?_ ?_ <;> intro hcnd <;> (try simp at hcnd) <;> try exact dc) | refine Zx ?_ | clear hK K)
  all_goals
   simp
   exact .pure (by simp)
 ·exact .tup (by simp)
end Go.Proofs.YtnpndfmbkmbhbaaGreatDoor
namespace Go.Der
open Go.VS Go.Stp
theorem aeffS_loadB {P : Program} {F : List (Nat × Nat × V)} {s : List V} {rows : List Row} {k : KV} {t : TypeId} {a : Operand} {j off : Nat} {vs : List V} (ha : oval s a = .ref j off) (hu : uagg P t = some true) (hn : usz P t = some vs.length) (h0 : vs ≠ [])
  (hF : ∀ (i : Nat) v, vs[i]? = some v → (j, off + i, v) ∈ F) (hk : k (.agg vs) rows) : aeffS P F (.load t a) s rows k := by
 refine ⟨.agg vs, fun rows2 h => ?_, hk⟩
 obtain ⟨v0, hv0⟩ : ∃ v0, vs[0]? = some v0 := by cases vs with | nil => exact absurd rfl h0 | cons x _ => exact ⟨x, rfl⟩
 obtain ⟨cs, h1, h2⟩ := h _ (hF 0 v0 hv0)
 have hall : ∀ (i : Nat) v, vs[i]? = some v → cs[off + i]? = some v := fun i v hv => by
  obtain ⟨cs', q1, q2⟩ := h _ (hF i v hv)
  dsimp only at q1 q2 h1
  rw [h1] at q1
  obtain rfl : cs = cs' := by simpa using q1
  exact q2
 have hle : off + vs.length ≤ cs.length := by
  have hpos : 0 < vs.length := List.length_pos_iff.2 h0
  have := (List.getElem?_eq_some_iff.1 (hall (vs.length - 1) (vs[vs.length - 1]'(by omega)) (List.getElem?_eq_getElem (by omega)))).1
  omega
 have he : (cs.drop off).take vs.length = vs := by
  apply List.ext_getElem?
  intro i
  rw [List.getElem?_take]
  split
  ·rename_i hi
   rw [List.getElem?_drop, hall i _ (List.getElem?_eq_getElem hi), List.getElem?_eq_getElem hi]
  ·rw [List.getElem?_eq_none (by omega)]
 simp only [aeff, ha, aload]
 refine ⟨cs, h1, ?_, ?_⟩
 ·rintro rfl; simp at h2
 ·simp only [acells, hu]
  exact ⟨_, hn, hle, by rw [he], trivial⟩
end Go.Der
namespace Go.Proofs.YtnpndfmbkmbhbaaGreatDoor
open Go.Proofs.Tryz
open Go.VS Go.Der Go.Stp
attribute [local irreducible] arun arunD arunU AWp aend
theorem lvalN_call (tbs : Bs) (this next num base rea : Int) (has ind : Bool) (I En : V) (pI : I.Pure) (pE : En.Pure) (oI : I.one = true) (oE : En.one = true) (k : Nat) (hk : k < 128) : MCall prog 110 [.ref 0 0, .agg [.str [50, 46, 53, 46, 50, 57, 46, 50, 48], .bool false, .str (wr 2 [UInt8.ofNat k])]] ([.str [], .str tbs, I, .int .i64 this, .int .i64 next, .int .i64 num, .int .i64 base, .str [], .bool has, .nils, .bool false, .bool false, .int .i64 rea, .bool ind, .nils, En, .str []]) ([.str [], .str tbs, I, .int .i64 this, .int .i64 next, .int .i64 (k : Int), .int .i64 base, .str [], .bool has, .nils, .bool false, .bool false, .int .i64 rea, .bool ind, .nils, En, .str []]) (.int .i64 0) := by
 have hb := bigInt_call 2 k ⟨by omega, by omega, by omega⟩ hk
 generalize wr 2 [UInt8.ofNat k] = U at *
 refine mcall_body func110 rfl call110 ?_ ?_ ?_
 rotate_left 2
 refine awp_slots (s' := (.ref 0 0 : V) :: (.agg [.str [50, 46, 53, 46, 50, 57, 46, 50, 48], .bool false, .str U] : V) :: zJ 95) rfl ?_; dsimp only [zJ]
 ·repeat' (first | (refine ZuU ?_; intro K9 h9; simp (disch := first | exact dd | fail) [pI, pE, oI, oE]; refine Zm ?_; ((first | refine Zc hb ?_ | skip) <;> (refine ZfU h9 ?_; clear h9 K9))) | refine ZtU ?_ | refine Y8 fun K hK => ?_ | (apply hK; clear hK K) | (refine Zk 0 [] ?_; refine Zl ?_) | (refine Yb rfl ?_ ?_ <;> intro hcnd <;> (try simp at hcnd) <;> try exact dc) | refine Zx ?_ | clear hK K)
  simp
  exact mend_plain
 ·exact .int
 ·simp [pI, pE]
theorem lvalD_call (tbs : Bs) (this next num base rea : Int) (has ind : Bool) (I En : V) (pI : I.Pure) (pE : En.Pure) (oI : I.one = true) (oE : En.one = true) (k : Nat) (hk : k < 128) : MCall prog 110 [.ref 0 0, .agg [.str [50, 46, 53, 46, 50, 57, 46, 50, 55], .bool true, .str (wr 2 [UInt8.ofNat k])]] ([.str [], .str tbs, I, .int .i64 this, .int .i64 next, .int .i64 num, .int .i64 base, .str [], .bool has, .nils, .bool false, .bool false, .int .i64 rea, .bool ind, .nils, En, .str []]) ([.str [], .str tbs, I, .int .i64 this, .int .i64 next, .int .i64 num, .int .i64 (k : Int), .str [], .bool has, .nils, .bool false, .bool false, .int .i64 rea, .bool ind, .nils, En, .str []]) (.int .i64 0) := by
 have hb := bigInt_call 2 k ⟨by omega, by omega, by omega⟩ hk
 generalize wr 2 [UInt8.ofNat k] = U at *
 refine mcall_body func110 rfl call110 ?_ ?_ ?_
 rotate_left 2
 refine awp_slots (s' := (.ref 0 0 : V) :: (.agg [.str [50, 46, 53, 46, 50, 57, 46, 50, 55], .bool true, .str U] : V) :: zJ 95) rfl ?_; dsimp only [zJ]
 ·repeat' (first | (refine ZuU ?_; intro K9 h9; simp (disch := first | exact dd | fail) [pI, pE, oI, oE]; refine Zm ?_; ((first | refine Zc hb ?_ | skip) <;> (refine ZfU h9 ?_; clear h9 K9))) | refine ZtU ?_ | refine Y8 fun K hK => ?_ | (apply hK; clear hK K) | (refine Zk 0 [] ?_; refine Zl ?_) | (refine Yb rfl ?_ ?_ <;> intro hcnd <;> (try simp at hcnd) <;> try exact dc) | refine Zx ?_ | clear hK K)
  simp
  exact mend_plain
 ·exact .int
 ·simp [pI, pE]
theorem lvalP_call (tbs : Bs) (this next num base rea : Int) (has ind : Bool) (I En : V) (pI : I.Pure) (pE : En.Pure) (oI : I.one = true) (oE : En.one = true) (U : Bs) (r2 : Int) (i2 : Bool) (hb : PCall prog 149 [.str U] (.tup [.agg [.nils, .bool false, .bool false, .int .i64 r2, .bool i2], .int .i64 0])) : MCall prog 110 [.ref 0 0, .agg [.str [50, 46, 53, 46, 50, 57, 46, 50, 56], .bool true, .str U]] ([.str [], .str tbs, I, .int .i64 this, .int .i64 next, .int .i64 num, .int .i64 base, .str [], .bool has, .nils, .bool false, .bool false, .int .i64 rea, .bool ind, .nils, En, .str []]) ([.str [], .str tbs, I, .int .i64 this, .int .i64 next, .int .i64 num, .int .i64 base, .str [], .bool true, .nils, .bool false, .bool false, .int .i64 r2, .bool i2, .nils, En, .str []]) (.int .i64 0) := by
 refine mcall_body func110 rfl call110 ?_ ?_ ?_
 rotate_left 2
 refine awp_slots (s' := (.ref 0 0 : V) :: (.agg [.str [50, 46, 53, 46, 50, 57, 46, 50, 56], .bool true, .str U] : V) :: zJ 95) rfl ?_; dsimp only [zJ]
 ·repeat' (first | (refine ZuU ?_; intro K9 h9; simp (disch := first | exact dd | fail) [pI, pE, oI, oE]; refine Zm ?_; ((first | refine Zc hb ?_ | (refine aeffS_loadB (j := 2) (off := 0) (vs := [.nils, .bool false, .bool false, .int .i64 r2, .bool i2]) rfl ?_ ?_ ?_ ?_ ?_; (focus (simp; done)); (focus (simp; done)); (focus (simp; done)); (focus (intro i v h; rcases i with _ | _ | _ | _ | _ | i <;> simp at h <;> subst h <;> simp))) | skip) <;> (refine ZfU h9 ?_; clear h9 K9))) | refine ZtU ?_ | refine Y8 fun K hK => ?_ | (apply hK; clear hK K) | ((first | refine awp_region_drawF (ops := #[_, _, _, _, _, _, _, _, _]) (m := 0) [(2, 0, .nils), (2, 1, .bool false), (2, 2, .bool false), (2, 3, .int .i64 r2), (2, 4, .bool i2)] (by simp) (by decide +kernel) [0, 0, 3, 0, 0, 0, 0, 0, 0] (by kernel_rfl) (by decide +kernel) ?_ | refine Zk 0 [] ?_); refine Zl ?_) | (refine Yb rfl ?_ ?_ <;> intro hcnd <;> (try simp at hcnd) <;> try exact dc) | refine Zx ?_ | clear hK K)
  simp
  exact mend_plain
 ·exact .int
 ·simp [pI, pE]
theorem find1_call (U : Bs) : PCall prog 111 [.sl 1 [.str [50, 46, 53, 46, 50, 57, 46, 50, 48], .bool false, .str U], .str [50, 46, 53, 46, 50, 57, 46, 50, 48]] (.tup [.agg [.str [50, 46, 53, 46, 50, 57, 46, 50, 48], .bool false, .str U], .bool true]) := by
 refine pcall_body func111 rfl call111 ?_ ?_
 rotate_left 1
 refine awp_slots (s' := (.sl 1 [.str [50, 46, 53, 46, 50, 57, 46, 50, 48], .bool false, .str U] : V) :: (.str [50, 46, 53, 46, 50, 57, 46, 50, 48] : V) :: zJ 19) rfl ?_; dsimp only [zJ]
 ·repeat' (first | refine Zq ?_ | refine Zt ?_ | (refine awp_rounds 3 fun KL hL => ?_) | refine Y8 fun K hK => ?_ | (apply hK; clear hK K) | (refine Yb rfl ?_ ?_ <;> intro hcnd <;> (try simp at hcnd) <;> try exact dc) | refine Zx ?_ | clear hK K | (refine hL _ _ _ ?_) | (clear hK K) | (clear hL KL))
  simp
  exact .pure (by simp)
 ·exact .tup (by simp)
theorem find2_call (U i2 U2 : Bs) (b2 : Bool) : PCall prog 111 [.sl 2 [.str [50, 46, 53, 46, 50, 57, 46, 50, 48], .bool false, .str U, .str i2, .bool b2, .str U2], .str [50, 46, 53, 46, 50, 57, 46, 50, 48]] (.tup [.agg [.str [50, 46, 53, 46, 50, 57, 46, 50, 48], .bool false, .str U], .bool true]) := by
 refine pcall_body func111 rfl call111 ?_ ?_
 rotate_left 1
 refine awp_slots (s' := (.sl 2 [.str [50, 46, 53, 46, 50, 57, 46, 50, 48], .bool false, .str U, .str i2, .bool b2, .str U2] : V) :: (.str [50, 46, 53, 46, 50, 57, 46, 50, 48] : V) :: zJ 19) rfl ?_; dsimp only [zJ]
 ·repeat' (first | refine Zq ?_ | refine Zt ?_ | (refine awp_rounds 3 fun KL hL => ?_) | refine Y8 fun K hK => ?_ | (apply hK; clear hK K) | (refine Yb rfl ?_ ?_ <;> intro hcnd <;> (try simp at hcnd) <;> try exact dc) | refine Zx ?_ | clear hK K | (refine hL _ _ _ ?_) | (clear hK K) | (clear hL KL))
  simp
  exact .pure (by simp)
 ·exact .tup (by simp)
end Go.Proofs.YtnpndfmbkmbhbaaGreatDoor
