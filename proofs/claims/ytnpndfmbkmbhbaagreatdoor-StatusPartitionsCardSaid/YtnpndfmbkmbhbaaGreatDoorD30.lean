/-
 ENCODINGS: the lists of the laws about statuses, made by the reference.
 Conditions: none.
-/
import Derived.Test.YtnpndfmbkmbhbaaGreatDoorD29
import Derived.Test.YtnpndfmbkmbhbaaGreatDoorHn
import Derived.Test.YtnpndfmbkmbhbaaGreatDoorD36
import Derived.Test.YtnpndfmbkmbhbaaGreatDoorGo
import Derived.Test.YtnpndfmbkmbhbaaGreatDoorGn
set_option maxRecDepth 100000
set_option maxHeartbeats 32000000
set_option linter.all false
namespace Go.Der
open Go.VS Go.Stp
inductive Kd where
 | N
 | D (b : Nat)
 | R (r : Nat)
 | I
def Kd.base : Kd → Int
 | .D b => b
 | _ => -1
def Kd.has : Kd → Bool
 | .R _ => true
 | .I => true
 | _ => false
def Kd.rea : Kd → Int
 | .R r => r
 | _ => 0
def Kd.ind : Kd → Bool
 | .I => true
 | _ => false
def Kd.X : Kd → List (Ex × Bs)
 | .N => []
 | .D b => [exDel b]
 | .R r => [exPnt (wr 131 (putF r))]
 | .I => [exPnt (wr 132 [255])]
structure Ml where
 v : Bs
 this : Nat
 next : Nat
 num : Nat
 kd : Kd
 en : Option (Nat × Nat × Bs)
def Ml.X (m : Ml) : List (Ex × Bs) := exNum m.num :: m.kd.X
def enX (v : Bs) (r : Nat) (w : Bs) : List (Ex × Bs) := if r = 0 then [] else if w = v then [exRea r] else [exRea r, exIss w]
def Ml.enP (m : Ml) : List (Int × Bs) :=
 match m.en with
 | none => []
 | some (s, r, w) => [(48, wr 48 (entC s (enX m.v r w)))]
def Ml.W (m : Ml) : Bs := wr 48 (exsC m.X)
def Ml.C (m : Ml) : Bs := wrs (tbsP m.v m.this m.next m.enP m.W)
def Ml.ens (m : Ml) : List En :=
 match m.en with
 | none => []
 | some (s, r, w) => [⟨s, 0, r, -1, nm1 w⟩]
def Ml.li (m : Ml) (raw tbs sig : Bs) : Li := ⟨raw, tbs, nm1 m.v, m.this, m.next, m.num, m.kd.base, [], m.kd.has, ⟨[], false, false, m.kd.rea, m.kd.ind⟩, [], m.ens, sig⟩
def Ml.enV (m : Ml) : V :=
 match m.en with
 | none => .nils
 | some (s, r, w) => .sl 1 [.int .i64 s, .int .i64 0, .int .i64 r, .int .i64 (-1), nmV (nm1 w)]
def Ml.c0 (m : Ml) (raw tbs sig : Bs) : List V := [.str raw, .str tbs, nmV (nm1 m.v), .int .i64 m.this, .int .i64 m.next, .int .i64 m.num, .int .i64 m.kd.base, .str [], .bool m.kd.has, .nils, .bool false, .bool false, .int .i64 m.kd.rea, .bool m.kd.ind, .nils, m.enV, .str sig]
theorem c0_nz (m : Ml) (raw tbs sig : Bs) : (m.c0 raw tbs sig).map nz = (m.li raw tbs sig).c := by
 obtain ⟨v, this, next, num, kd, en⟩ := m
 cases en with
 | none => rfl
 | some e => obtain ⟨s, r, w⟩ := e; rfl
theorem putF_len : ∀ m : Nat, m < 512 → (putF m).length ≤ 3 := by decide +kernel
end Go.Der
namespace Go.Proofs.YtnpndfmbkmbhbaaGreatDoor
open Go.Proofs.Tryz
open Go.VS Go.Der Go.Stp
attribute [local irreducible] arun arunD arunU AWp aend wr
structure EnOk (m : Ml) (s r : Nat) (w : Bs) : Prop where
 s1 : 1 ≤ s
 s2 : s ≤ 100
 rr : r = 0 ∨ r = 1 ∨ r = 6 ∨ r = 8
 wok : VOk w
 d : r = 8 → ∃ b, m.kd = .D b
 n : (w = m.v ∧ nameB (nm1 w) (nm1 m.v) = true) ∨ (w ≠ m.v ∧ nameB (nm1 w) (nm1 m.v) = false ∧ m.kd = .I ∧ r ≠ 0)
structure MlOk (m : Ml) : Prop where
 v : VOk m.v
 t : m.this ≤ m.next
 n : m.next < 10
 num : m.num < 100
 d : ∀ b, m.kd = .D b → b < m.num
 rr : ∀ r, m.kd = .R r → 0 < r ∧ r < 512 ∧ r % 2 = 0
 e : ∀ s r w, m.en = some (s, r, w) → EnOk m s r w
theorem wn_nm1 {v : Bs} (h : v.length ≤ 64) : WN (nm1 v) := by
 simp [WN, nm1]
 omega
theorem ml_scope (m : Ml) (h : MlOk m) (raw tbs sig : Bs) : PCall prog 79 [.agg (m.li raw tbs sig).c] (.int .i64 0) := by
 have hr := h.rr
 obtain ⟨v, this, next, num, kd, en⟩ := m
 cases kd with
 | N => exact cscope0_call raw tbs sig this next num (-1) _ _ _
 | D b => exact cscope0_call raw tbs sig this next num b _ _ _
 | R r => exact cscopeR_call raw tbs sig this next num (-1) _ _ _ r (by have := hr r rfl; omega) (by have := hr r rfl; omega) (by have := hr r rfl; omega)
 | I => exact cscopeI_call raw tbs sig this next num (-1) _ _ _
theorem flagsW_call (tag : Int) (m : Nat) (ht : TagOk tag) (h0 : 0 < m) (hm : m < 512) : PCall prog 93 [.int .i64 tag, .int .i64 m] (.str (wr tag (putF m))) := by
 have he := putFlags_call m hm
 have hl := putF_len m hm
 have hw := wrap7_call tag [putF m] ht (by simp) (by simp; omega)
 rw [show ([putF m] : List Bs).flatten = putF m by simp] at hw
 have g : ¬ m = 0 := by omega
 generalize wr tag (putF m) = R at *
 generalize putF m = C at *
 refine pcall_body func93 rfl call93 ?_ ?_
 rotate_left 1
 refine awp_slots (s' := (.int .i64 tag : V) :: (.int .i64 m : V) :: zJ 16) rfl ?_; dsimp only [zJ]
 ·repeat' (first | (refine Zu ?_; intro K9 h9; simp (disch := first | exact dd | fail) [g]; refine Zm ?_; ((first | refine Ap he ?_ | refine acall_view hw ⟨.pure .int, view_row rfl (by simp) (by simp), trivial⟩ .str ?_ | skip) <;> (refine Zf h9 ?_; clear h9 K9))) | refine Zt ?_ | refine Y8 fun K hK => ?_ | (apply hK; clear hK K) | (refine Yb rfl ?_ ?_ <;> intro hcnd <;> (try simp at hcnd) <;> try exact dc) | refine Zx ?_ | clear hK K)
  exact .pure .str
 ·exact .str
theorem mask_call (m : Nat) (h0 : 1 < m) (hm : m < 512) : PCall prog 213 [.str (putF m)] (.tup [.int .i64 m, .int .i64 0]) := by
 obtain ⟨h1, h2, h3, h4⟩ := put_ok m hm h0
 have hf : PCall prog 230 [.str (putF m)] (.tup [.int .i64 m, .int .i64 0]) := by
  rw [← h2]
  generalize putF m = B at *
  match B, h1 with
  | [u, x], h1 =>
   simp only [flOk, decide_eq_true_eq] at h1
   exact nflags_call u x [x] _ (by simp) rfl h1.1 h1.2.1 (by simpa using h1.2.2.1) h3 h1.2.2.2
  | [u, x, y], h1 =>
   simp only [flOk, decide_eq_true_eq] at h1
   exact nflags_call u y [x, y] _ (by simp) rfl h1.1 h1.2.1 (by simpa using h1.2.2.1) h3 h1.2.2.2
 have g : ¬ m = 0 := by omega
 generalize putF m = C at *
 refine pcall_body func213 rfl call213 ?_ ?_
 rotate_left 1
 refine awp_slots (s' := (.str C : V) :: zJ 16) rfl ?_; dsimp only [zJ]
 ·repeat' (first | (refine Zu ?_; intro K9 h9; simp (disch := first | exact dd | fail) [g]; refine Zm ?_; ((first | refine Ap hf ?_ | skip) <;> (refine Zf h9 ?_; clear h9 K9))) | refine Zt ?_ | refine Y8 fun K hK => ?_ | (apply hK; clear hK K) | (refine Yb rfl ?_ ?_ <;> intro hcnd <;> (try simp at hcnd) <;> try exact dc) | refine Zx ?_ | clear hK K)
  exact .pure (by simp)
 ·exact .tup (by simp)
theorem ml_name (m : Ml) (h : MlOk m) : PCall prog 78 [.agg [nmV (nm1 m.v)]] (.int .i64 0) := checkName_call m.v h.v.txt h.v.len h.v.ne
theorem ml_match {v w : Bs} (hv : VOk v) (hw : VOk w) : PCall prog 88 [.agg [nmV (nm1 w)], .agg [nmV (nm1 v)]] (.bool (nameB (nm1 w) (nm1 v))) := rmatch_call (nm1 w) (nm1 v) (wn_nm1 hw.len) (wn_nm1 hv.len)
theorem ml_base (m : Ml) (h : MlOk m) : -1 ≤ m.kd.base ∧ (m.kd.base = -1 ∨ m.kd.base < m.num) := by
 have hd := h.d
 obtain ⟨v, this, next, num, kd, en⟩ := m
 cases kd with
 | D b => have := hd b rfl; simp only [Kd.base] at this ⊢; omega
 | _ => simp [Kd.base]
theorem ml_check (m : Ml) (h : MlOk m) (raw tbs sig : Bs) : PCall prog 43 [.agg (m.li raw tbs sig).c] (.int .i64 0) := by
 have hb := ml_base m h
 have ht := h.t
 have hn := h.n
 have hnum := h.num
 have hsc := ml_scope m h raw tbs sig
 have hcn := ml_name m h
 have he := h.e
 have hv := h.v
 have hdd := h.d
 obtain ⟨v, this, next, num, kd, en⟩ := m
 dsimp only at *
 cases en with
 | none => exact chkList0_call raw tbs sig this next num kd.base kd.rea kd.has kd.ind _ (by omega) (by omega) hcn hsc
 | some e =>
  obtain ⟨s, r, w⟩ := e
  have e' := he s r w rfl
  have hm := ml_match hv e'.wok
  have hn2 := e'.n
  refine chkList1_call raw tbs sig this next num kd.base kd.rea kd.has kd.ind _ _ (by omega) (by omega) hcn hsc ?_
  refine chkEntry_call raw tbs sig this next num kd.base kd.rea s r kd.has kd.ind _ _ (by have := e'.s1; have := e'.s2; omega) (by have := e'.rr; omega) (fun h8 => ?_) (checkName_call w e'.wok.txt e'.wok.len e'.wok.ne) (fun hi => ?_)
  ·obtain ⟨b, hk⟩ := e'.d (by omega)
   dsimp only at hk
   subst hk
   show ¬ (b : Int) = -1
   omega
  ·rcases hn2 with ⟨-, h2⟩ | ⟨-, -, h3, -⟩
   ·rw [h2] at hm; exact hm
   ·dsimp only at h3; subst h3; exact absurd hi (by simp [Kd.ind])
theorem ml_exts (m : Ml) (h : MlOk m) : (∀ p ∈ m.X, EOk p) ∧ (∀ (i : Nat) (hi : i < (exL m.X).length), ∀ x ∈ (exL m.X).take i, x.id ≠ (exL m.X)[i].id) ∧ m.X.length ≤ 2 ∧ (exsC m.X).length ≤ 120 := by
 have hnum := h.num
 have hd := h.d
 have hr := h.rr
 have l1 : (wr 2 [UInt8.ofNat m.num]).length = 3 := by unfold wr; rfl
 have h5 := exsC_sum m.X
 obtain ⟨v, this, next, num, kd, en⟩ := m
 dsimp only at *
 cases kd with
 | N =>
  refine ⟨fun p hp => ?_, dist1 _, by simp [Ml.X, Kd.X], ?_⟩
  ·simp [Ml.X, Kd.X] at hp; subst hp; exact eok_num num (by omega)
  ·simp [Ml.X, Kd.X, exNum, l1] at h5 ⊢; omega
 | D b =>
  have l2 : (wr 2 [UInt8.ofNat b]).length = 3 := by unfold wr; rfl
  refine ⟨fun p hp => ?_, dist2 (by simp [exNum, exDel]), by simp [Ml.X, Kd.X], ?_⟩
  ·simp [Ml.X, Kd.X] at hp
   rcases hp with rfl | rfl
   ·exact eok_num num (by omega)
   ·exact eok_del b (by have := hd b rfl; omega)
  ·simp [Ml.X, Kd.X, exNum, exDel, l1, l2] at h5 ⊢; omega
 | R r =>
  have hr' := hr r rfl
  have l2 := putF_len r (by omega)
  have l3 := @wr_len 131 (putF r)
  have l4 := @wr_len 48 (wr 131 (putF r))
  refine ⟨fun p hp => ?_, dist2 (by simp [exNum, exPnt]), by simp [Ml.X, Kd.X], ?_⟩
  ·simp [Ml.X, Kd.X] at hp
   rcases hp with rfl | rfl
   ·exact eok_num num (by omega)
   ·exact eok_pnt 131 (putF r) ⟨by omega, by omega, by omega⟩ (by decide) (by omega)
  ·simp [Ml.X, Kd.X, exNum, exPnt, l1] at h5 ⊢; omega
 | I =>
  have l3 := @wr_len 132 [255]
  have l4 := @wr_len 48 (wr 132 [255])
  refine ⟨fun p hp => ?_, dist2 (by simp [exNum, exPnt]), by simp [Ml.X, Kd.X], ?_⟩
  ·simp [Ml.X, Kd.X] at hp
   rcases hp with rfl | rfl
   ·exact eok_num num (by omega)
   ·exact eok_pnt 132 [255] ⟨by omega, by omega, by omega⟩ (by decide) (by simp)
  ·simp [Ml.X, Kd.X, exNum, exPnt, l1] at h5 l3 ⊢; omega
theorem ml_lext (m : Ml) (h : MlOk m) (raw tbs sig : Bs) : PCall prog 48 [.agg (m.li raw tbs sig).c] (.tup [exsV (exL m.X), .int .i64 0]) := by
 have hnum := h.num
 have hd := h.d
 have hr := h.rr
 obtain ⟨v, this, next, num, kd, en⟩ := m
 dsimp only at *
 cases kd with
 | N => exact lextN_call raw tbs sig this next num _ (by omega) _ _
 | D b => exact lextD_call raw tbs sig this next num _ (by omega) _ _ b (by have := hd b rfl; omega)
 | R r =>
  have hr' := hr r rfl
  have l2 := putF_len r (by omega)
  have l3 := @wr_len 131 (putF r)
  have key := fun (n : Nat) (B E : List V) => lextP_call raw tbs sig this next num n (by omega) B E (r : Int) false (wr 131 (putF r)) [] (by omega) (by simp) (flagsW_call 131 r ⟨by omega, by omega, by omega⟩ (by omega) (by omega)) (booleanF_call 132)
  simp only [List.append_nil] at key
  exact key _ _ _
 | I =>
  have l3 := @wr_len 132 [255]
  exact lextP_call raw tbs sig this next num _ (by omega) _ _ 0 true [] (wr 132 [255]) (by simp) (by simp at l3; omega) (flags0_call 131) (booleanW_call 132 ⟨by omega, by omega, by omega⟩)
theorem enX_len (v : Bs) (r : Nat) (w : Bs) (hw : w.length ≤ 64) : (xsB (enX v r w)).length ≤ 250 := by
 have l1 : (wr 10 [UInt8.ofNat r]).length = 3 := by unfold wr; rfl
 have l2 := nmB_len w hw
 have l3 := @wr_len 164 (nmB w)
 have l4 := @wr_len 48 (wr 164 (nmB w))
 unfold enX
 split
 ·simp [xsB]
 split
 ·have h5 := exsC_sum [exRea r]
  have h6 := @wr_len 48 (exsC [exRea r])
  simp [exRea, l1] at h5
  show (wr 48 (exsC [exRea r])).length ≤ 250
  simp [exRea] at h6 ⊢
  omega
 ·have h5 := exsC_sum [exRea r, exIss w]
  have h6 := @wr_len 48 (exsC [exRea r, exIss w])
  simp [exRea, exIss, l1] at h5
  show (wr 48 (exsC [exRea r, exIss w])).length ≤ 250
  simp [exRea, exIss] at h6 ⊢
  omega
theorem entC_len (v : Bs) (s r : Nat) (w : Bs) (hw : w.length ≤ 64) : (entC s (enX v r w)).length ≤ 270 := by
 have l1 : (wr 2 [UInt8.ofNat s]).length = 3 := by unfold wr; rfl
 have l2 : (timeB 0).length = 15 := by unfold timeB wr; rfl
 have l3 := enX_len v r w hw
 unfold entC
 rw [List.length_append, List.length_append]
 omega
theorem ml_entry (v : Bs) (hv : VOk v) (s r : Nat) (w : Bs) (hs : s < 128) (hr : r < 128) (hw : VOk w) (hn : (w = v ∧ nameB (nm1 w) (nm1 v) = true) ∨ (w ≠ v ∧ nameB (nm1 w) (nm1 v) = false ∧ r ≠ 0)) : PCall prog 46 [.agg [.int .i64 s, .int .i64 0, .int .i64 r, .int .i64 (-1), nmV (nm1 w)], .agg [nmV (nm1 v)]] (.str (wr 48 (entC s (enX v r w)))) := by
 have hm := ml_match hv hw
 rcases Nat.eq_zero_or_pos r with h0 | h0
 ·subst h0
  rcases hn with ⟨-, h2⟩ | ⟨-, -, h3⟩
  ·rw [h2] at hm
   exact entry0_call s hs _ _ hm
  ·exact absurd rfl h3
 ·rcases hn with ⟨h1, h2⟩ | ⟨h1, h2, -⟩
  ·rw [h2] at hm
   rw [show enX v r w = [exRea r] by simp [enX, h1]; omega]
   exact entryR_call s r h0 hr hs _ _ hm
  ·rw [h2] at hm
   rw [show enX v r w = [exRea r, exIss w] by simp [enX, h1]; omega]
   exact entryI_call s r w hw hs h0 hr _ hm
theorem ml_W (m : Ml) (h : MlOk m) : m.W.length ≤ 130 := by
 have h1 := (ml_exts m h).2.2.2
 have h2 := @wr_len 48 (exsC m.X)
 unfold Ml.W
 omega
theorem ml_tbs (m : Ml) (h : MlOk m) (raw tbs sig : Bs) : PCall prog 29 [.agg (m.li raw tbs sig).c] (.tup [.str (wr 48 m.C), .int .i64 0]) := by
 have hck := ml_check m h raw tbs sig
 have hlx := ml_lext m h raw tbs sig
 obtain ⟨x1, x2, x3, x4⟩ := ml_exts m h
 have hW := ml_W m h
 have hwp : PCall prog 49 [.int .i64 160, exsV (exL m.X)] (.tup [.str (wr 160 m.W), .int .i64 0]) := wrapped_call m.X (by omega) (by simp [Ml.X]) x1 x2
 have ht := h.t
 have hn := h.n
 have he := h.e
 have hv := h.v
 unfold Ml.C Ml.enP
 unfold exsV at hlx hwp
 obtain ⟨v, this, next, num, kd, en⟩ := m
 dsimp only at *
 cases en with
 | none => exact encTbs0_call raw tbs sig v hv this next (by omega) (by omega) num kd.base kd.rea kd.has kd.ind _ _ _ _ (by omega) rfl hck hlx hwp
 | some e =>
  obtain ⟨s, r, w⟩ := e
  have e' := he s r w rfl
  have hel := entC_len v s r w e'.wok.len
  have hwl := @wr_len 48 (entC s (enX v r w))
  exact encTbs1_call raw tbs sig v hv this next (by omega) (by omega) num kd.base kd.rea kd.has kd.ind _ _ _ _ (by omega) rfl (.int .i64 s) (.int .i64 0) (.int .i64 r) (.int .i64 (-1)) ⟨.int, rfl⟩ ⟨.int, rfl⟩ ⟨.int, rfl⟩ ⟨.int, rfl⟩ _ _ (by omega) hck hlx hwp
   (ml_entry v hv s r w (by have := e'.s2; omega) (by have := e'.rr; omega) e'.wok (by rcases e'.n with h | ⟨h1, h2, h3, h4⟩; exact .inl h; exact .inr ⟨h1, h2, h4⟩))
theorem ml_readEntry (v : Bs) (s r : Nat) (w : Bs) (hs : s < 128) (hr : r < 128) (hw : VOk w) (hn : w = v ∨ r ≠ 0) (raw : Bs) : PCall prog 108 [.agg [.int .i64 48, .str (entC s (enX v r w)), .str raw], .agg [nmV (nm1 v)]] (.tup [.agg [.int .i64 s, .int .i64 0, .int .i64 r, .int .i64 (-1), nmV (nm1 w)], .int .i64 0]) := by
 by_cases h0 : r = 0
 ·subst h0
  obtain rfl : w = v := by rcases hn with h | h; exact h; exact absurd rfl h
  exact readEntry0_call s hs raw (nmV (nm1 w)) .sl rfl
 ·by_cases hwv : w = v
  ·subst hwv
   rw [show enX w r w = [exRea r] by simp [enX, h0]]
   exact readEntryR_call s hs r hr raw (nmV (nm1 w)) .sl rfl
  ·rw [show enX v r w = [exRea r, exIss w] by simp [enX, h0, hwv]]
   exact readEntryI_call s hs r hr w hw raw (nmV (nm1 v)) .sl rfl
end Go.Proofs.YtnpndfmbkmbhbaaGreatDoor

