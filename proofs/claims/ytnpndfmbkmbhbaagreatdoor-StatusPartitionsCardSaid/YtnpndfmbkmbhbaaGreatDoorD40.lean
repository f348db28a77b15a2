/-
 ENCODINGS: the lists of the laws about statuses: read, decoded and signed by the reference.
 Conditions: none.
-/
import Derived.Test.YtnpndfmbkmbhbaaGreatDoorD30
import Derived.Test.YtnpndfmbkmbhbaaGreatDoorHo
import Derived.Test.YtnpndfmbkmbhbaaGreatDoorHp
set_option maxRecDepth 100000
set_option maxHeartbeats 32000000
set_option linter.all false
namespace Go.Der
open Go.VS Go.Stp Go.Proofs.YtnpndfmbkmbhbaaGreatDoor
theorem algC_l : (wr 48 algC).length ≤ 105 := by decide
theorem v1_l : (wr 2 [1]).length = 3 := rfl
def Ml.tbs (m : Ml) : Bs := wr 48 m.C
def Ml.sgn (m : Ml) (k : Nat) : Bs := sgnS (mseedS (1000 + k)) 0 0 m.tbs
def Ml.raw (m : Ml) (k : Nat) : Bs := wr 48 (m.tbs ++ (algB ++ wr 3 (0 :: m.sgn k)))
def Ml.done (m : Ml) (k : Nat) : Li := m.li (m.raw k) m.tbs (m.sgn k)
end Go.Der
namespace Go.Proofs.YtnpndfmbkmbhbaaGreatDoor
open Go.Proofs.Tryz
open Go.VS Go.Der Go.Stp
attribute [local irreducible] arun arunD arunU AWp aend wr
theorem ml_C (m : Ml) (h : MlOk m) : m.C.length ≤ 900 := by
 have hW := ml_W m h
 have l9 := @wr_len 160 m.W
 have hnl := nmB_len m.v h.v.len
 have hnl2 : (wr 48 (nmC m.v)).length ≤ 120 := hnl
 have l5 := algC_l
 have l6 := v1_l
 have l7 : (wr 23 (timeC m.this)).length = 15 := by unfold wr; rfl
 have l8 : (wr 23 (timeC m.next)).length = 15 := by unfold wr; rfl
 have he := h.e
 unfold Ml.C Ml.enP
 obtain ⟨v, this, next, num, kd, en⟩ := m
 dsimp only at *
 cases en with
 | none => simp [tbsP, wrs]; omega
 | some e =>
  obtain ⟨s, r, w⟩ := e
  have e' := he s r w rfl
  have h1 := entC_len v s r w e'.wok.len
  have h2 := @wr_len 48 (entC s (enX v r w))
  have h3 := @wr_len 48 (wr 48 (entC s (enX v r w)))
  simp [tbsP, wrs]; omega
theorem ml_read (m : Ml) (h : MlOk m) (raw : Bs) : PCall prog 58 [.agg [.int .i64 48, .str m.C, .str raw]] (.tup [.agg (m.c0 [] raw []), .int .i64 0]) := by
 have hv := h.v
 have ht := h.t
 have hn := h.n
 have hnum := h.num
 have hd := h.d
 have hr := h.rr
 have he := h.e
 unfold Ml.C Ml.enP Ml.W Ml.c0 Ml.enV
 obtain ⟨v, this, next, num, kd, en⟩ := m
 dsimp only at *
 cases en with
 | none =>
  cases kd with
  | N => exact listTbsN0_call raw v hv this next num (by omega) (by omega) (by omega)
  | D b => exact listTbsD0_call raw v hv this next num (by omega) (by omega) (by omega) b (by have := hd b rfl; omega)
  | R r =>
   have hr' := hr r rfl
   have l2 := putF_len r (by omega)
   have l3 := @wr_len 131 (putF r)
   exact listTbsP0_call raw v hv this next num (by omega) (by omega) (by omega) (wr 131 (putF r)) (by omega) (eok_pnt 131 (putF r) ⟨by omega, by omega, by omega⟩ (by decide) (by omega)) r false (readScopeR_call (putF r) r (by omega) (mask_call r (by omega) (by omega)))
  | I =>
   have l3 := @wr_len 132 [255]
   simp only [List.length_cons, List.length_nil] at l3
   exact listTbsP0_call raw v hv this next num (by omega) (by omega) (by omega) (wr 132 [255]) (by omega) (eok_pnt 132 [255] ⟨by omega, by omega, by omega⟩ (by decide) (by simp)) 0 true readScopeI_call
 | some e =>
  obtain ⟨s, r, w⟩ := e
  have e' := he s r w rfl
  have hel := entC_len v s r w e'.wok.len
  have hre := ml_readEntry v s r w (by have := e'.s2; omega) (by have := e'.rr; omega) e'.wok (by rcases e'.n with h | ⟨h1, h2, h3, h4⟩; exact .inl h.1; exact .inr h4) (wr 48 (entC s (enX v r w)))
  cases kd with
  | N => exact listTbsN1_call raw v hv this next num (by omega) (by omega) (by omega) _ (by omega) _ _ _ _ _ ⟨.int, rfl⟩ ⟨.int, rfl⟩ ⟨.int, rfl⟩ ⟨.int, rfl⟩ ⟨.sl, rfl⟩ hre
  | D b => exact listTbsD1_call raw v hv this next num (by omega) (by omega) (by omega) b (by have := hd b rfl; omega) _ (by omega) _ _ _ _ _ ⟨.int, rfl⟩ ⟨.int, rfl⟩ ⟨.int, rfl⟩ ⟨.int, rfl⟩ ⟨.sl, rfl⟩ hre
  | R q =>
   have hr' := hr q rfl
   have l2 := putF_len q (by omega)
   have l3 := @wr_len 131 (putF q)
   exact listTbsP1_call raw v hv this next num (by omega) (by omega) (by omega) (wr 131 (putF q)) (by omega) (eok_pnt 131 (putF q) ⟨by omega, by omega, by omega⟩ (by decide) (by omega)) q false (readScopeR_call (putF q) q (by omega) (mask_call q (by omega) (by omega))) _ (by omega) _ _ _ _ _ ⟨.int, rfl⟩ ⟨.int, rfl⟩ ⟨.int, rfl⟩ ⟨.int, rfl⟩ ⟨.sl, rfl⟩ hre
  | I =>
   have l3 := @wr_len 132 [255]
   simp only [List.length_cons, List.length_nil] at l3
   exact listTbsP1_call raw v hv this next num (by omega) (by omega) (by omega) (wr 132 [255]) (by omega) (eok_pnt 132 [255] ⟨by omega, by omega, by omega⟩ (by decide) (by simp)) 0 true readScopeI_call _ (by omega) _ _ _ _ _ ⟨.int, rfl⟩ ⟨.int, rfl⟩ ⟨.int, rfl⟩ ⟨.int, rfl⟩ ⟨.sl, rfl⟩ hre
theorem c0_args (m : Ml) (raw tbs sig : Bs) : ([.agg (m.c0 raw tbs sig)] : List V).map nza = [.agg (m.li raw tbs sig).c] := by
 rw [← c0_nz]; rfl
theorem enV_ok (m : Ml) : m.enV.Pure ∧ m.enV.one = true := by
 unfold Ml.enV
 cases m.en with
 | none => exact ⟨.nils, rfl⟩
 | some e => exact ⟨.sl, rfl⟩
theorem ml_dec (m : Ml) (h : MlOk m) (s : Bs) (hs : s.length ≤ 2000) : PCall prog 32 [.str (wr 48 (wr 48 m.C ++ (algB ++ wr 3 (0 :: s))))] (.tup [.agg (m.c0 (wr 48 (wr 48 m.C ++ (algB ++ wr 3 (0 :: s)))) (wr 48 m.C) s), .int .i64 0]) := by
 have hC := ml_C m h
 have he := enV_ok m
 have hn : (nmV (nm1 m.v)).Pure ∧ (nmV (nm1 m.v)).one = true := ⟨.sl, rfl⟩
 exact decCrl_call m.C s (by omega) hs (nmV (nm1 m.v)) (.int .i64 m.this) (.int .i64 m.next) (.int .i64 m.num) (.int .i64 m.kd.base) (.str []) (.bool m.kd.has) .nils (.bool false) (.bool false) (.int .i64 m.kd.rea) (.bool m.kd.ind) .nils m.enV
  (by simp only [List.forall_mem_cons, List.not_mem_nil, false_imp_iff, implies_true, and_true]; exact ⟨hn, ⟨.int, rfl⟩, ⟨.int, rfl⟩, ⟨.int, rfl⟩, ⟨.int, rfl⟩, ⟨.str, rfl⟩, ⟨.bool, rfl⟩, ⟨.nils, rfl⟩, ⟨.bool, rfl⟩, ⟨.bool, rfl⟩, ⟨.int, rfl⟩, ⟨.bool, rfl⟩, ⟨.nils, rfl⟩, he⟩) (ml_read m h (wr 48 m.C)) (pcall_nza (ml_check m h _ _ _) (c0_args m _ _ _)) (pcall_nza (ml_tbs m h _ _ _) (c0_args m _ _ _))
theorem ml_sign (m : Ml) (h : MlOk m) (k : Nat) : PCall prog 18 [.agg (m.c0 [] [] []), rtV (mseedS (1000 + k)) 0, .int .i64 0] (.agg (m.done k).c) := by
 have hC := ml_C m h
 have he := enV_ok m
 have l1 := @wr_len 48 m.C
 have l2 := sgnS_length (mseedS (1000 + k)) 0 0 (wr 48 m.C) (by omega)
 have hn : (nmV (nm1 m.v)).Pure ∧ (nmV (nm1 m.v)).one = true := ⟨.sl, rfl⟩
 have hp : Pures (m.c0 (m.raw k) m.tbs (m.sgn k)) := by simp [Ml.c0, he, hn]
 refine pcall_nzt (r := .agg (m.c0 (m.raw k) m.tbs (m.sgn k))) ?_ (by rw [Ml.done, ← c0_nz]; rfl) (.agg (Li.c_pures _))
 exact signL_call m.C (mseedS (1000 + k)) hC (by simp [mseedS]) (.str []) (.str []) (nmV (nm1 m.v)) (.int .i64 m.this) (.int .i64 m.next) (.int .i64 m.num) (.int .i64 m.kd.base) (.str []) (.bool m.kd.has) .nils (.bool false) (.bool false) (.int .i64 m.kd.rea) (.bool m.kd.ind) .nils m.enV (.str [])
  _ _ _ _ _ _ _ _ _ _ _ _ _ _ _ _ _ (by simp only [List.forall_mem_cons, List.not_mem_nil, false_imp_iff, implies_true, and_true]; exact ⟨⟨.str, rfl⟩, ⟨.str, rfl⟩, hn, ⟨.int, rfl⟩, ⟨.int, rfl⟩, ⟨.int, rfl⟩, ⟨.int, rfl⟩, ⟨.str, rfl⟩, ⟨.bool, rfl⟩, ⟨.nils, rfl⟩, ⟨.bool, rfl⟩, ⟨.bool, rfl⟩, ⟨.int, rfl⟩, ⟨.bool, rfl⟩, ⟨.nils, rfl⟩, he, ⟨.str, rfl⟩⟩) (by simp only [List.forall_mem_cons, List.not_mem_nil, false_imp_iff, implies_true, and_true]; exact ⟨⟨.str, rfl⟩, ⟨.str, rfl⟩, hn, ⟨.int, rfl⟩, ⟨.int, rfl⟩, ⟨.int, rfl⟩, ⟨.int, rfl⟩, ⟨.str, rfl⟩, ⟨.bool, rfl⟩, ⟨.nils, rfl⟩, ⟨.bool, rfl⟩, ⟨.bool, rfl⟩, ⟨.int, rfl⟩, ⟨.bool, rfl⟩, ⟨.nils, rfl⟩, he, ⟨.str, rfl⟩⟩) (pcall_nza (ml_tbs m h [] [] []) (c0_args m _ _ _)) (ml_dec m h _ (by omega))
end Go.Proofs.YtnpndfmbkmbhbaaGreatDoor

