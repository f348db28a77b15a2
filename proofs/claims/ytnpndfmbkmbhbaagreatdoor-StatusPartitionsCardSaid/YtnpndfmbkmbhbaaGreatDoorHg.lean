/-
 ENCODINGS: the algorithm, and names of one attribute, encoded and decoded by the reference.
 Conditions: none.
-/
import Derived.Test.YtnpndfmbkmbhbaaGreatDoorHf
set_option maxRecDepth 100000
set_option maxHeartbeats 32000000
set_option linter.all false
namespace Go.Der
open Go.VS Go.Stp
theorem wrs1 (t : Int) (c : Bs) : wrs [(t, c)] = wr t c := by simp [wrs]
theorem wrs2 (t u : Int) (c d : Bs) : wrs [(t, c), (u, d)] = wr t c ++ wr u d := by simp [wrs]
end Go.Der
namespace Go.Proofs.YtnpndfmbkmbhbaaGreatDoor
open Go.Proofs.Tryz
open Go.VS Go.Der Go.Stp
attribute [local irreducible] arun arunD arunU AWp aend
theorem tc1 {t : Int} {c : Bs} (ht : TagOk t) (hc : c.length < 65536) : TcS [(t, c)] := fun p hp => by
 simp at hp; subst hp; exact ⟨ht, hc⟩
theorem tc2 {t u : Int} {c d : Bs} (ht : TagOk t) (hc : c.length < 65536) (hu : TagOk u) (hd : d.length < 65536) : TcS [(t, c), (u, d)] := fun p hp => by
 simp at hp; rcases hp with rfl | rfl <;> exact ⟨by assumption, by assumption⟩
theorem oidA_call : PCall prog 96 [.str sAlg] (.str algC) := by
 have he := encOidA_call
 have hw := wrap7_call 6 [cAlg] ⟨by omega, by omega, by omega⟩ (by simp) (by simp [cAlg])
 rw [show ([cAlg] : List Bs).flatten = cAlg by simp] at hw
 unfold algC sAlg
 unfold cAlg at *
 refine pcall_body func96 rfl call96 ?_ ?_
 rotate_left 1
 refine awp_slots (s' := (.str [49, 46, 51, 46, 54, 46, 49, 46, 52, 46, 49, 46, 53, 56, 56, 56, 56, 46, 49, 46, 49] : V) :: zJ 12) rfl ?_; dsimp only [zJ]
 ·repeat' (first | (refine Zu ?_; intro K9 h9; refine Zd ?_; ((first | refine Ap he ?_ | refine acall_view hw ⟨.pure .int, view_row rfl (by simp) (by simp), trivial⟩ .str ?_ | skip) <;> (refine Zf h9 ?_; clear h9 K9))) | refine Zt ?_ | refine Y8 fun K hK => ?_ | (apply hK; clear hK K) | refine Zx ?_ | clear hK K)
  exact .pure .str
 ·exact .str
theorem algorithm0_call : PCall prog 51 [] (.str algB) := by
 have ho := oidA_call
 have hl : algC.length ≤ 100 := by decide
 have hw := wrap7_call 48 [algC] ⟨by omega, by omega, by omega⟩ (by simp) (by simp; omega)
 rw [show ([algC] : List Bs).flatten = algC by simp] at hw
 unfold algB sAlg at *
 generalize wr 48 algC = R at *
 generalize algC = C at *
 refine pcall_body func51 rfl call51 ?_ ?_
 rotate_left 1
 refine awp_slots (s' := zJ 4) rfl ?_; dsimp only [zJ]
 ·repeat' (first | (refine Zu ?_; intro K9 h9; refine Zd ?_; ((first | refine Ap ho ?_ | refine acall_view hw ⟨.pure .int, view_row rfl (by simp) (by simp), trivial⟩ .str ?_ | skip) <;> (refine Zf h9 ?_; clear h9 K9))) | refine Zt ?_ | refine Y8 fun K hK => ?_ | (apply hK; clear hK K) | refine Zx ?_ | clear hK K)
  exact .pure .str
 ·exact .str
theorem checkAlg_call (raw : Bs) : PCall prog 112 [.agg [.int .i64 48, .str algC, .str raw]] (.int .i64 0) := by
 have ho := open_call 48 [(6, cAlg)] (tc1 ⟨by omega, by omega, by omega⟩ (by simp [cAlg])) (by decide) raw
 rw [wrs1, show wr 6 cAlg = algC from rfl] at ho
 have hn : MCall prog 57 [.ref 0 0, .int .i64 6] [elsV (wels [(6, cAlg)]), .int .i64 0] [elsV (wels [(6, cAlg)]), .int .i64 1] (.tup [.agg [.int .i64 6, .str cAlg, .str algC], .int .i64 0]) := need_call (wels [(6, cAlg)]) 0 6 (by simp [wels]) (.inr rfl) (by simp [wels])
 have he : MCall prog 61 [.ref 0 0] [elsV (wels [(6, cAlg)]), .int .i64 1] [elsV (wels [(6, cAlg)]), .int .i64 1] (.int .i64 0) := endf_call (wels [(6, cAlg)]) (by simp [wels])
 have hd := decOidA_call
 have hp : (elsV (wels [(6, cAlg)])).Pure := elsV_pure _
 have hE1 : (elsV (wels [(6, cAlg)])).one = true := rfl
 unfold cAlg at *
 generalize elsV (wels [(6, [43, 6, 1, 4, 1, 131, 204, 8, 1, 1])]) = E at *
 generalize algC = C at *
 refine pcall_body func112 rfl call112 ?_ ?_
 rotate_left 1
 refine awp_slots (s' := (.agg [.int .i64 48, .str C, .str raw] : V) :: zJ 36) rfl ?_; dsimp only [zJ]
 ·repeat' (first | ((first | refine ZuU ?_ | (refine ZvU ?_ ?_; (focus (simp [hE1]; done)))); intro K9 h9; simp (disch := first | exact dd | fail) [hE1]; refine Zm ?_; ((first | refine Ap ho ?_ | refine Ap hd ?_ | refine acall_mutf hn rfl (by simp [hp]) (by simp [hp]) (.tup (by simp)) (by simp) ?_ | refine acall_mutf he rfl (by simp [hp]) (by simp [hp]) .int (by simp) ?_ | skip) <;> (refine ZfU h9 ?_; clear h9 K9))) | refine ZtU ?_ | refine Y8 fun K hK => ?_ | (apply hK; clear hK K) | (refine Yb rfl ?_ ?_ <;> intro hcnd <;> (try simp at hcnd) <;> try exact dc) | (refine ZnU ?_ ?_; (focus (simp [hE1]; done)); refine ZsU ?_) | refine Zx ?_ | clear hK K)
  exact .pure .int
 ·exact .int
theorem algorithmf_call (l : List El) (i : Nat) (hi : i < l.length) (hx : l[i] = wel 48 algC) (hl : l.length ≤ 1000000) : MCall prog 59 [.ref 0 0] (fldR l i) (fldR l (i + 1)) (.int .i64 0) := by
 have hn := need_call l i (-1) hi (.inl (by omega)) hl
 rw [hx] at hn
 have hc := checkAlg_call (wr 48 algC)
 have hp1 := fldR_pures l i
 have hp2 := fldR_pures l (i + 1)
 unfold wel El.c at hn
 dsimp only at hn
 generalize wr 48 algC = raw at *
 generalize algC = B at *
 generalize fldR l i = r1 at *
 generalize fldR l (i + 1) = r2 at *
 refine mcall_body func59 rfl call59 ?_ ?_ ?_
 rotate_left 2
 refine awp_slots (s' := (.ref 0 0 : V) :: zJ 14) rfl ?_; dsimp only [zJ]
 ·repeat' (first | (refine Zu ?_; intro K9 h9; refine Zd ?_; ((first | refine Ap hc ?_ | refine acall_mutf hn rfl hp1 hp2 (.tup (by simp)) (by simp) ?_ | skip) <;> (refine Zf h9 ?_; clear h9 K9))) | refine Zt ?_ | refine Y8 fun K hK => ?_ | (apply hK; clear hK K) | (refine Yb rfl ?_ ?_ <;> intro hcnd <;> (try simp at hcnd) <;> try exact dc) | refine Zx ?_ | clear hK K)
  simp
  exact mend_plain
 ·exact .int
 ·exact hp2
theorem attribute_call (v raw : Bs) (hv : v.length ≤ 64) : PCall prog 173 [.agg [.int .i64 48, .str (wr 6 cO ++ wr 19 v), .str raw]] (.tup [.agg [.str [50, 46, 53, 46, 52, 46, 49, 48], .int .i64 19, .str v], .int .i64 0]) := by
 have h6 : TagOk 6 := ⟨by omega, by omega, by omega⟩
 have h19 : TagOk 19 := ⟨by omega, by omega, by omega⟩
 have w1 : (wr 6 cO).length ≤ 8 := by decide
 have w2 := @wr_len 19 v
 have ho := open_call 48 [(6, cO), (19, v)] (tc2 h6 (by simp [cO]) h19 (by omega)) (by rw [wrs2, List.length_append]; omega) raw
 rw [wrs2] at ho
 have hn1 : MCall prog 57 [.ref 0 0, .int .i64 6] [elsV (wels [(6, cO), (19, v)]), .int .i64 0] [elsV (wels [(6, cO), (19, v)]), .int .i64 1] (.tup [.agg [.int .i64 6, .str cO, .str (wr 6 cO)], .int .i64 0]) := need_call (wels [(6, cO), (19, v)]) 0 6 (by simp [wels]) (.inr rfl) (by simp [wels])
 have hn2 : MCall prog 57 [.ref 0 0, .int .i64 (-1)] [elsV (wels [(6, cO), (19, v)]), .int .i64 1] [elsV (wels [(6, cO), (19, v)]), .int .i64 2] (.tup [.agg [.int .i64 19, .str v, .str (wr 19 v)], .int .i64 0]) := need_call (wels [(6, cO), (19, v)]) 1 (-1) (by simp [wels]) (.inl (by omega)) (by simp [wels])
 have he : MCall prog 61 [.ref 0 0] [elsV (wels [(6, cO), (19, v)]), .int .i64 2] [elsV (wels [(6, cO), (19, v)]), .int .i64 2] (.int .i64 0) := endf_call (wels [(6, cO), (19, v)]) (by simp [wels])
 have hd := decOidO_call
 have hp : (elsV (wels [(6, cO), (19, v)])).Pure := elsV_pure _
 have hE1 : (elsV (wels [(6, cO), (19, v)])).one = true := rfl
 generalize elsV (wels [(6, cO), (19, v)]) = E at *
 generalize wr 6 cO ++ wr 19 v = B at *
 generalize wr 6 cO = C1 at *
 generalize wr 19 v = C2 at *
 unfold cO at *
 refine pcall_body func173 rfl call173 ?_ ?_
 rotate_left 1
 refine awp_slots (s' := (.agg [.int .i64 48, .str B, .str raw] : V) :: zJ 71) rfl ?_; dsimp only [zJ]
 ·repeat' (first | ((first | refine ZuU ?_ | (refine ZvU ?_ ?_; (focus (simp [hE1]; done)))); intro K9 h9; simp (disch := first | exact dd | fail) [hE1]; refine Zm ?_; ((first | refine Ap ho ?_ | refine Ap hd ?_ | refine acall_mutf hn1 rfl (by simp [hp]) (by simp [hp]) (.tup (by simp)) (by simp) ?_ | refine acall_mutf hn2 rfl (by simp [hp]) (by simp [hp]) (.tup (by simp)) (by simp) ?_ | refine acall_mutf he rfl (by simp [hp]) (by simp [hp]) .int (by simp) ?_ | skip) <;> (refine ZfU h9 ?_; clear h9 K9))) | refine ZtU ?_ | refine Y8 fun K hK => ?_ | (apply hK; clear hK K) | (refine Yb rfl ?_ ?_ <;> intro hcnd <;> (try simp at hcnd) <;> try exact dc) | (refine ZnU ?_ ?_; (focus (simp [hE1]; done)); refine ZsU ?_) | refine Zx ?_ | clear hK K)
  simp
  exact .pure (by simp)
 ·exact .tup (by simp)
theorem asc1_call (e : El) : PCall prog 172 [.sl 1 e.c] (.bool true) := by
 generalize e.c = C
 refine pcall_body func172 rfl call172 ?_ ?_
 rotate_left 1
 refine awp_slots (s' := (.sl 1 C : V) :: zJ 21) rfl ?_; dsimp only [zJ]
 ·repeat' (first | refine Zq ?_ | refine Zt ?_ | (refine awp_rounds 3 fun KL hL => ?_) | refine Y8 fun K hK => ?_ | (apply hK; clear hK K) | (refine Zk 0 [] ?_; refine Zl ?_) | (refine Yb rfl ?_ ?_ <;> intro hcnd <;> (try simp at hcnd) <;> try exact dc) | refine Zx ?_ | clear hK K | (refine hL _ _ _ ?_) | (clear hK K) | (clear hL KL))
  exact .pure .bool
 ·exact .bool
theorem attributes_call (v : Bs) (hv : v.length ≤ 64) : PCall prog 84 [.sl 1 [.str [50, 46, 53, 46, 52, 46, 49, 48], .int .i64 19, .str v]] (.sl 1 [.str (wr 48 (wr 6 cO ++ wr 19 v))]) := by
 have ho := oidO_call
 have w1 : (wr 6 cO).length ≤ 8 := by decide
 have w2 := @wr_len 19 v
 have h1 := wrap7_call 19 [v] ⟨by omega, by omega, by omega⟩ (by simp) (by simp; omega)
 rw [show ([v] : List Bs).flatten = v by simp] at h1
 have h2 := wrap7_call 48 [wr 6 cO, wr 19 v] ⟨by omega, by omega, by omega⟩ (by simp) (by simp; omega)
 rw [show ([wr 6 cO, wr 19 v] : List Bs).flatten = wr 6 cO ++ wr 19 v by simp] at h2
 generalize wr 48 (wr 6 cO ++ wr 19 v) = R at *
 generalize wr 6 cO = C1 at *
 generalize wr 19 v = C2 at *
 refine pcall_body func84 rfl call84 ?_ ?_
 rotate_left 1
 refine awp_slots (s' := (.sl 1 [.str [50, 46, 53, 46, 52, 46, 49, 48], .int .i64 19, .str v] : V) :: zJ 27) rfl ?_; dsimp only [zJ]
 ·repeat' (first | (refine Zu ?_; intro K9 h9; refine Zd ?_; ((first | refine Ap ho ?_ | refine acall_view h1 ⟨.pure .int, view_row rfl (by simp) (by simp), trivial⟩ .str ?_ | refine acall_view h2 ⟨.pure .int, view_row rfl (by simp) (by simp), trivial⟩ .str ?_ | skip) <;> (refine Zf h9 ?_; clear h9 K9))) | refine Zt ?_ | (refine awp_rounds 3 fun KL hL => ?_) | refine Y8 fun K hK => ?_ | (apply hK; clear hK K) | (refine Zk 4 [] ?_; refine Zl ?_) | (refine Yb rfl ?_ ?_ <;> intro hcnd <;> (try simp at hcnd) <;> try exact dc) | refine Zx ?_ | clear hK K | (refine hL _ _ _ ?_) | (clear hK K) | (clear hL KL))
  simp
  exact view_row rfl (by simp) (by simp)
 ·exact .sl
end Go.Proofs.YtnpndfmbkmbhbaaGreatDoor
namespace Go.Der
open Go.VS Go.Stp
structure ExOk (P : Program) (fv fc fe fd : FuncId) (x : Ex) (c : Bs) : Prop where
 valid : PCall P fv [.str x.id] (.bool true)
 chk : PCall P fc [.str x.v] (.int .i64 0)
 enc : PCall P fe [.str x.id] (.tup [.str c, .int .i64 0])
 dec : PCall P fd [.str c] (.tup [.str x.id, .int .i64 0])
 cl : c.length ≤ 20
 vl : x.v.length ≤ 1000
theorem exs_take (l : List Ex) (i : Nat) (h : i ≤ l.length) : (l.flatMap Ex.c).take (i * 3) = (l.take i).flatMap Ex.c := by
 induction l generalizing i with
 | nil => simp
 | cons x l ih =>
  cases i with
  | zero => simp
  | succ i =>
   rw [List.flatMap_cons, List.take_succ_cons, List.flatMap_cons, show (i + 1) * 3 = x.c.length + i * 3 by simp [Ex.c]; omega, List.take_length_add_append, ih i (by simpa using h)]
end Go.Der
namespace Go.Proofs.YtnpndfmbkmbhbaaGreatDoor
open Go.Proofs.Tryz
open Go.VS Go.Der Go.Stp
attribute [local irreducible] arun arunD arunU AWp aend
theorem view_oslv {rows : List Row} {id n sz : Nat} {cs cs' : List V} (h : rows[id]? = some (.live cs)) (hl : n * sz = cs.length) (hv : Views rows cs cs') : View rows (.osl id 0 n sz) (.sl n cs') := by
 have hg := hv.get
 refine .osl h (by omega) (by omega) fun i x y hx hy => hg.2 i x y (by simpa using hx) hy

theorem decName_call (v : Bs) (hv : PCall prog 166 [.int .i64 19, .str v] (.bool true)) (hl : v.length ≤ 64) (hn : v ≠ []) : PCall prog 143 [.str (nmB v)] (.tup [.agg [nmV (nm1 v)], .int .i64 0]) := by
 have h48 : TagOk 48 := ⟨by omega, by omega, by omega⟩
 have h49 : TagOk 49 := ⟨by omega, by omega, by omega⟩
 have w1 : (wr 6 cO).length ≤ 8 := by decide
 have w2 := @wr_len 19 v
 have w3 := @wr_len 48 (wr 6 cO ++ wr 19 v)
 have w4 := @wr_len 49 (wr 48 (wr 6 cO ++ wr 19 v))
 rw [List.length_append] at w3

 have hone := one_call 48 (nmC v) h48 (by unfold nmC; omega)
 have ho1 := open_call 48 [(49, wr 48 (wr 6 cO ++ wr 19 v))] (tc1 h49 (by omega)) (by rw [wrs1]; omega) (nmB v)
 rw [wrs1] at ho1
 have ho2 := open_call 49 [(48, wr 6 cO ++ wr 19 v)] (tc1 h48 (by rw [List.length_append]; omega)) (by rw [wrs1]; omega) (wr 49 (wr 48 (wr 6 cO ++ wr 19 v)))
 rw [wrs1] at ho2
 have has := asc1_call (wel 48 (wr 6 cO ++ wr 19 v))
 have hat := attribute_call v (wr 48 (wr 6 cO ++ wr 19 v)) hl
 have hck := checkName_call v hv hl hn
 rw [nmV_nm1] at *
 rw [show elsV (wels [(49, wr 48 (wr 6 cO ++ wr 19 v))]) = .sl 1 [.int .i64 49, .str (wr 48 (wr 6 cO ++ wr 19 v)), .str (wr 49 (wr 48 (wr 6 cO ++ wr 19 v)))] from rfl] at ho1
 rw [show elsV (wels [(48, wr 6 cO ++ wr 19 v)]) = .sl 1 [.int .i64 48, .str (wr 6 cO ++ wr 19 v), .str (wr 48 (wr 6 cO ++ wr 19 v))] from rfl] at ho2
 unfold nmB nmC wel El.c at *
 dsimp only at *
 generalize wr 48 (wr 49 (wr 48 (wr 6 cO ++ wr 19 v))) = R0 at *
 generalize wr 49 (wr 48 (wr 6 cO ++ wr 19 v)) = R1 at *
 generalize wr 48 (wr 6 cO ++ wr 19 v) = R2 at *
 generalize wr 6 cO ++ wr 19 v = R3 at *
 refine pcall_body func143 rfl call143 ?_ ?_
 rotate_left 1
 refine awp_slots (s' := (.str R0 : V) :: zJ 94) rfl ?_; dsimp only [zJ]
 ·repeat' (first | (refine Zu ?_; intro K9 h9; refine Zd ?_; ((first | refine Ap hone ?_ | refine Ap ho1 ?_ | refine Ap ho2 ?_ | refine Ap has ?_ | refine Ap hat ?_ | refine acall_view hck ⟨view_agg ⟨view_oslv rfl (by simp) (by exact ⟨view_row rfl (by simp) (by simp), trivial⟩), trivial⟩, trivial⟩ .int ?_ | skip) <;> (refine Zf h9 ?_; clear h9 K9))) | refine Zt ?_ | (refine awp_rounds 3 fun KL hL => ?_) | refine Y8 fun K hK => ?_ | (apply hK; clear hK K) | (refine Yb rfl ?_ ?_ <;> intro hcnd <;> (try simp at hcnd) <;> try exact dc) | refine Zx ?_ | clear hK K | (refine hL _ _ _ ?_) | (clear hK K) | (clear hL KL))
  simp
  exact view_tup ⟨view_agg ⟨view_oslv rfl (by simp) (by exact ⟨view_row rfl (by simp) (by simp), trivial⟩), trivial⟩, .pure .int, trivial⟩
 ·exact .tup (by simp)
theorem namef_call (l : List El) (i : Nat) (v : Bs) (hi : i < l.length) (hv : PCall prog 166 [.int .i64 19, .str v] (.bool true)) (hvl : v.length ≤ 64) (hn : v ≠ []) (hx : l[i] = wel 48 (nmC v)) (hl : l.length ≤ 1000000) : MCall prog 105 [.ref 0 0] (fldR l i) (fldR l (i + 1)) (.tup [.agg [nmV (nm1 v)], .int .i64 0]) := by
 have hnd := need_call l i (-1) hi (.inl (by omega)) hl
 rw [hx] at hnd
 have hc := decName_call v hv hvl hn
 have hp1 := fldR_pures l i
 have hp2 := fldR_pures l (i + 1)
 unfold wel El.c at hnd
 unfold nmB at hc
 dsimp only at hnd
 generalize wr 48 (nmC v) = raw at *
 generalize nmC v = B at *
 generalize fldR l i = r1 at *
 generalize fldR l (i + 1) = r2 at *
 have hpn : (nmV (nm1 v)).Pure := .sl
 have hW1 : (nmV (nm1 v)).one = true := rfl
 generalize nmV (nm1 v) = W at *
 refine mcall_body func105 rfl call105 ?_ ?_ ?_
 rotate_left 2
 refine awp_slots (s' := (.ref 0 0 : V) :: zJ 19) rfl ?_; dsimp only [zJ]
 ·repeat' (first | (refine Zu ?_; intro K9 h9; simp (disch := first | exact dd | fail) [hW1]; refine Zm ?_; ((first | refine Ap hc ?_ | refine acall_mutf hnd rfl hp1 hp2 (.tup (by simp)) (by simp) ?_ | skip) <;> (refine Zf h9 ?_; clear h9 K9))) | refine Zt ?_ | refine Y8 fun K hK => ?_ | (apply hK; clear hK K) | (refine Yb rfl ?_ ?_ <;> intro hcnd <;> (try simp at hcnd) <;> try exact dc) | refine Zx ?_ | clear hK K)
  simp
  exact mend_plain
 ·exact .tup (by simp [hpn])
 ·exact hp2
theorem findn_call (l : List Ex) (id : Bs) (hl : l.length ≤ 1000) (h : ∀ x ∈ l, x.id ≠ id) : PCall prog 111 [.sl l.length (l.flatMap Ex.c), .str id] (.tup [.agg [.str [], .bool false, .str []], .bool false]) := by
 have hcl : (l.flatMap Ex.c).length = l.length * 3 := flat_len (f := Ex.c) (m := 3) (fun _ => rfl) l
 have hat := fun i hi => flat_at (f := Ex.c) (m := 3) (fun _ => rfl) l i hi
 refine pcall_body func111 rfl call111 ?_ ?_
 rotate_left 1
 refine awp_slots (s' := (.sl l.length (l.flatMap Ex.c) : V) :: (.str id : V) :: zJ 19) rfl ?_; dsimp only [zJ]
 ·repeat' (first | refine Zq ?_ | refine Zt ?_ | refine Y8 fun K hK => ?_ | (apply hK; clear hK K) | (refine Yb rfl ?_ ?_ <;> intro hcnd <;> (try simp at hcnd) <;> try exact dc) | refine Zx ?_ | clear hK K)
  refine awp_countU (fun i => (some V.junk :: zN 4 (some V.junk :: none :: some V.junk :: zN 2 (some (V.int .i64 i) :: zS 10 [])))) (fun i => [.live [.str [], .bool false, .str []]]) l.length ?_ fun i hi KL hL => ?_
  ·dsimp only [ups, zN, zS]
   exact Yr [some 0] (by simp [rowsOver, rowRen_live])
  dsimp only [ups, zN, zS]
  rcases Nat.lt_or_ge i l.length with hi | hi
  ·have hx := h _ (List.getElem_mem hi)
   have ha := hat i hi
   obtain ⟨⟨xi, xc, xv⟩, hxx⟩ : ∃ x, l[i] = x := ⟨_, rfl⟩
   rw [hxx] at hx ha
   generalize l.flatMap Ex.c = C at *
   unfold Ex.c at ha
   dsimp only at hx ha
   repeat' (first | (refine Zu ?_; intro K9 h9; simp (disch := first | exact dd | fail) [ha, hcl, hx]; refine Zm ?_; refine Zf h9 ?_; clear h9 K9) | refine Zt ?_ | refine Y8 fun K hK => ?_ | (apply hK; clear hK K) | (refine Yb rfl ?_ ?_ <;> intro hcnd <;> (try simp at hcnd) <;> try exact dc) | refine Zx ?_ | clear hK K)
   refine hL _ _ hi ?_
   exact Yr [some 0] (by simp [rowsOver, rowRen_live])
  obtain rfl : i = l.length := by omega
  repeat' (first | refine Zq ?_ | refine Zt ?_ | refine Y8 fun K hK => ?_ | (apply hK; clear hK K) | (refine Yb rfl ?_ ?_ <;> intro hcnd <;> (try simp at hcnd) <;> try exact dc) | refine Zx ?_ | clear hK K)
  simp
  exact .pure (by simp)
 ·exact .tup (by simp)
theorem chk0_call (tag : Int) (c raw : Bs) (d : Int) (h0 : 0 ≤ tag) (h1 : tag ≤ 255) (h : tag / 32 % 2 = 0) : PCall prog 228 [.agg [.int .i64 tag, .str c, .str raw], .int .i64 d] (.int .i64 0) := by
 refine pcall_body func228 rfl call228 ?_ ?_
 rotate_left 1
 refine awp_slots (s' := (.agg [.int .i64 tag, .str c, .str raw] : V) :: (.int .i64 d : V) :: zJ 38) rfl ?_; dsimp only [zJ]
 ·repeat' (first | (refine Zu ?_; intro K9 h9; simp (disch := first | exact dd | fail) [h]; refine Zm ?_; refine Zf h9 ?_; clear h9 K9) | refine Zt ?_ | refine Y8 fun K hK => ?_ | (apply hK; clear hK K) | (refine Yb rfl ?_ ?_ <;> intro hcnd <;> (try simp at hcnd) <;> try exact dc) | refine Zx ?_ | clear hK K)
  exact .pure .int
 ·exact .int
theorem check0_call (tag : Int) (c : Bs) (ht : TagOk tag) (hc : c.length < 65536) (h : tag / 32 % 2 = 0) : PCall prog 210 [.str (wr tag c)] (.int .i64 0) := by
 have ho := one_call tag c ht hc
 have hk := chk0_call tag c (wr tag c) 0 ht.1 ht.2.1 h
 unfold wel El.c at ho
 dsimp only at ho
 generalize wr tag c = B at *
 refine pcall_body func210 rfl call210 ?_ ?_
 rotate_left 1
 refine awp_slots (s' := (.str B : V) :: zJ 14) rfl ?_; dsimp only [zJ]
 ·repeat' (first | (refine Zu ?_; intro K9 h9; refine Zd ?_; ((first | refine Ap ho ?_ | refine Ap hk ?_ | skip) <;> (refine Zf h9 ?_; clear h9 K9))) | refine Zt ?_ | refine Y8 fun K hK => ?_ | (apply hK; clear hK K) | (refine Yb rfl ?_ ?_ <;> intro hcnd <;> (try simp at hcnd) <;> try exact dc) | refine Zx ?_ | clear hK K)
  exact .pure .int
 ·exact .int
end Go.Proofs.YtnpndfmbkmbhbaaGreatDoor
