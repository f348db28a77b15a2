/-
 ENCODINGS: extensions that the reference takes; small encoders.
 Conditions: none.
-/
import Derived.Test.YtnpndfmbkmbhbaaGreatDoorHi
import Derived.Test.YtnpndfmbkmbhbaaGreatDoorD25
set_option maxRecDepth 100000
set_option maxHeartbeats 32000000
set_option linter.all false
namespace Go.Der
open Go.VS Go.Stp
def exNum (k : Nat) : Ex × Bs := (⟨[50, 46, 53, 46, 50, 57, 46, 50, 48], false, wr 2 [UInt8.ofNat k]⟩, [85, 29, 20])
def exDel (k : Nat) : Ex × Bs := (⟨[50, 46, 53, 46, 50, 57, 46, 50, 55], true, wr 2 [UInt8.ofNat k]⟩, [85, 29, 27])
def exPnt (c : Bs) : Ex × Bs := (⟨[50, 46, 53, 46, 50, 57, 46, 50, 56], true, wr 48 c⟩, [85, 29, 28])
def exRea (k : Nat) : Ex × Bs := (⟨[50, 46, 53, 46, 50, 57, 46, 50, 49], false, wr 10 [UInt8.ofNat k]⟩, [85, 29, 21])
def exIss (v : Bs) : Ex × Bs := (⟨[50, 46, 53, 46, 50, 57, 46, 50, 57], true, wr 48 (wr 164 (nmB v))⟩, [85, 29, 29])
def xsB : List (Ex × Bs) → Bs
 | [] => []
 | p :: l => wr 48 (exsC (p :: l))
def entC (s : Nat) (X : List (Ex × Bs)) : Bs := wr 2 [UInt8.ofNat s] ++ (timeB 0 ++ xsB X)
def tbsP (v : Bs) (this next : Nat) (en : List (Int × Bs)) (W : Bs) : List (Int × Bs) := [(2, [1]), (48, algC), (48, nmC v), (23, timeC this), (23, timeC next)] ++ (en ++ [(160, W)])
theorem dist1 (p : Ex × Bs) : ∀ (i : Nat) (hi : i < (exL [p]).length), ∀ x ∈ (exL [p]).take i, x.id ≠ (exL [p])[i].id := fun i hi x hx => by
 simp [exL] at hi; subst hi; simp at hx
theorem dist2 {p q : Ex × Bs} (h : p.1.id ≠ q.1.id) : ∀ (i : Nat) (hi : i < (exL [p, q]).length), ∀ x ∈ (exL [p, q]).take i, x.id ≠ (exL [p, q])[i].id := fun i hi x hx => by
 match i, hi with
 | 0, _ => simp at hx
 | 1, _ => simp [exL] at hx ⊢; subst hx; exact h
end Go.Der
namespace Go.Proofs.YtnpndfmbkmbhbaaGreatDoor
open Go.Proofs.Tryz
open Go.VS Go.Der Go.Stp
attribute [local irreducible] arun arunD arunU AWp aend
theorem eok_num (k : Nat) (hk : k < 128) : EOk (exNum k) :=
 ⟨valid29_call 0 (by omega), check0_call 2 _ ⟨by omega, by omega, by omega⟩ (by simp) (by decide), encOid29_call 0 (by omega), decOid29_call 0 (by omega), by simp [exNum], by have := @wr_len 2 [UInt8.ofNat k]; simp [exNum] at *; omega⟩
theorem eok_del (k : Nat) (hk : k < 128) : EOk (exDel k) :=
 ⟨valid29_call 7 (by omega), check0_call 2 _ ⟨by omega, by omega, by omega⟩ (by simp) (by decide), encOid29_call 7 (by omega), decOid29_call 7 (by omega), by simp [exDel], by have := @wr_len 2 [UInt8.ofNat k]; simp [exDel] at *; omega⟩
theorem eok_rea (k : Nat) (hk : k < 128) : EOk (exRea k) :=
 ⟨valid29_call 1 (by omega), check0_call 10 _ ⟨by omega, by omega, by omega⟩ (by simp) (by decide), encOid29_call 1 (by omega), decOid29_call 1 (by omega), by simp [exRea], by have := @wr_len 10 [UInt8.ofNat k]; simp [exRea] at *; omega⟩
theorem eok_iss (v : Bs) (hv : VOk v) : EOk (exIss v) :=
 ⟨valid29_call 9 (by omega), checkc_call 48 _ ⟨by omega, by omega, by omega⟩ (by have := nmB_len v hv.len; have := @wr_len 164 (nmB v); omega) (chkName v hv.len), encOid29_call 9 (by omega), decOid29_call 9 (by omega), by simp [exIss], by have := nmB_len v hv.len; have := @wr_len 164 (nmB v); have := @wr_len 48 (wr 164 (nmB v)); simp [exIss] at *; omega⟩
theorem eok_pnt (t : Int) (c : Bs) (ht : TagOk t) (h0 : t / 32 % 2 = 0) (hc : c.length ≤ 100) : EOk (exPnt (wr t c)) :=
 ⟨valid29_call 8 (by omega), checkc_call 48 _ ⟨by omega, by omega, by omega⟩ (by have := @wr_len t c; omega) (chkc1 48 t c 0 (by omega) (by omega) (by decide) ht (by omega) (by omega) (chkp t c 1 ht.1 ht.2.1 h0)), encOid29_call 8 (by omega), decOid29_call 8 (by omega), by simp [exPnt], by have := @wr_len t c; have := @wr_len 48 (wr t c); simp [exPnt] at *; omega⟩
theorem number_call (tag : Int) (k : Nat) (ht : TagOk tag) (hk : k < 128) : PCall prog 50 [.int .i64 tag, .int .i64 k] (.str (wr tag [UInt8.ofNat k])) := by
 have he := putInt_call k hk
 have hw := wrap7_call tag [[UInt8.ofNat k]] ht (by simp) (by simp)
 rw [show ([[UInt8.ofNat k]] : List Bs).flatten = [UInt8.ofNat k] by simp] at hw
 generalize wr tag [UInt8.ofNat k] = R at *
 generalize [UInt8.ofNat k] = C at *
 refine pcall_body func50 rfl call50 ?_ ?_
 rotate_left 1
 refine awp_slots (s' := (.int .i64 tag : V) :: (.int .i64 k : V) :: zJ 8) rfl ?_; dsimp only [zJ]
 ·repeat' (first | (refine Zu ?_; intro K9 h9; refine Zd ?_; ((first | refine Ap he ?_ | refine acall_view hw ⟨.pure .int, view_row rfl (by simp) (by simp), trivial⟩ .str ?_ | skip) <;> (refine Zf h9 ?_; clear h9 K9))) | refine Zt ?_ | refine Y8 fun K hK => ?_ | (apply hK; clear hK K) | refine Zx ?_ | clear hK K)
  exact .pure .str
 ·exact .str
theorem booleanF_call (tag : Int) : PCall prog 92 [.int .i64 tag, .bool false] (.str []) := by
 refine pcall_body func92 rfl call92 ?_ ?_
 rotate_left 1
 refine awp_slots (s' := (.int .i64 tag : V) :: (.bool false : V) :: zJ 9) rfl ?_; dsimp only [zJ]
 ·repeat' (first | refine Zq ?_ | refine Zt ?_ | refine Y8 fun K hK => ?_ | (apply hK; clear hK K) | (refine Yb rfl ?_ ?_ <;> intro hcnd <;> (try simp at hcnd) <;> try exact dc) | refine Zx ?_ | clear hK K)
  exact .pure .str
 ·exact .str
theorem booleanW_call (tag : Int) (ht : TagOk tag) : PCall prog 92 [.int .i64 tag, .bool true] (.str (wr tag [255])) := by
 have he := putBoolT_call
 have hw := wrap7_call tag [[255]] ht (by simp) (by simp)
 rw [show ([[255]] : List Bs).flatten = [255] by simp] at hw
 generalize wr tag [255] = R at *
 refine pcall_body func92 rfl call92 ?_ ?_
 rotate_left 1
 refine awp_slots (s' := (.int .i64 tag : V) :: (.bool true : V) :: zJ 9) rfl ?_; dsimp only [zJ]
 ·repeat' (first | (refine Zu ?_; intro K9 h9; refine Zd ?_; ((first | refine Ap he ?_ | refine acall_view hw ⟨.pure .int, view_row rfl (by simp) (by simp), trivial⟩ .str ?_ | skip) <;> (refine Zf h9 ?_; clear h9 K9))) | refine Zt ?_ | refine Y8 fun K hK => ?_ | (apply hK; clear hK K) | (refine Yb rfl ?_ ?_ <;> intro hcnd <;> (try simp at hcnd) <;> try exact dc) | refine Zx ?_ | clear hK K)
  exact .pure .str
 ·exact .str
theorem flags0_call (tag : Int) : PCall prog 93 [.int .i64 tag, .int .i64 0] (.str []) := by
 refine pcall_body func93 rfl call93 ?_ ?_
 rotate_left 1
 refine awp_slots (s' := (.int .i64 tag : V) :: (.int .i64 0 : V) :: zJ 16) rfl ?_; dsimp only [zJ]
 ·repeat' (first | refine Zq ?_ | refine Zt ?_ | refine Y8 fun K hK => ?_ | (apply hK; clear hK K) | (refine Yb rfl ?_ ?_ <;> intro hcnd <;> (try simp at hcnd) <;> try exact dc) | refine Zx ?_ | clear hK K)
  exact .pure .str
 ·exact .str
theorem fullNames0_call : PCall prog 91 [.sl 0 []] (.str []) := by
 refine pcall_body func91 rfl call91 ?_ ?_
 rotate_left 1
 refine awp_slots (s' := (.sl 0 [] : V) :: zJ 17) rfl ?_; dsimp only [zJ]
 ·repeat' (first | refine Zq ?_ | refine Zt ?_ | refine Y8 fun K hK => ?_ | (apply hK; clear hK K) | (refine Yb rfl ?_ ?_ <;> intro hcnd <;> (try simp at hcnd) <;> try exact dc) | refine Zx ?_ | clear hK K)
  exact .pure .str
 ·exact .str
end Go.Proofs.YtnpndfmbkmbhbaaGreatDoor
namespace Go.Proofs.YtnpndfmbkmbhbaaGreatDoor
open Go.Proofs.Tryz
open Go.VS Go.Der Go.Stp
attribute [local irreducible] arun arunD arunU AWp aend
theorem entry0_call (s : Nat) (hs : s < 128) (A B : List V) (hm : PCall prog 88 [.agg [.sl 1 A], .agg [.sl 1 B]] (.bool true)) : PCall prog 46 [.agg [.int .i64 s, .int .i64 0, .int .i64 0, .int .i64 (-1), .sl 1 A], .agg [.sl 1 B]] (.str (wr 48 (entC s []))) := by
 have e0 : PCall prog 45 [.int .i64 0] (.tup [.str (timeB 0), .int .i64 0]) := etime_call 0 (by omega)
 have hn := number_call 2 s ⟨by omega, by omega, by omega⟩ hs
 have hw := wrap7_call 48 [wr 2 [UInt8.ofNat s], timeB 0, []] ⟨by omega, by omega, by omega⟩ (by simp) (by have := @wr_len 2 [UInt8.ofNat s]; have : (timeB 0).length = 15 := rfl; simp at *; omega)
 rw [show ([wr 2 [UInt8.ofNat s], timeB 0, []] : List Bs).flatten = entC s [] by simp [entC, xsB]] at hw
 generalize wr 48 (entC s []) = R at *
 generalize wr 2 [UInt8.ofNat s] = C at *
 generalize timeB 0 = T at *
 refine pcall_body func46 rfl call46 ?_ ?_
 rotate_left 1
 refine awp_slots (s' := (.agg [.int .i64 s, .int .i64 0, .int .i64 0, .int .i64 (-1), .sl 1 A] : V) :: (.agg [.sl 1 B] : V) :: zJ 68) rfl ?_; dsimp only [zJ]
 ·repeat' (first | (refine Zu ?_; intro K9 h9; refine Zd ?_; ((first | refine Ap hm ?_ | refine Ap e0 ?_ | refine Ap hn ?_ | refine acall_view hw ⟨.pure .int, view_row rfl (by simp) (by simp), trivial⟩ .str ?_ | skip) <;> (refine Zf h9 ?_; clear h9 K9))) | refine Zt ?_ | refine Y8 fun K hK => ?_ | (apply hK; clear hK K) | (refine Yb rfl ?_ ?_ <;> intro hcnd <;> (try simp at hcnd) <;> try exact dc) | refine Zx ?_ | clear hK K)
  exact .pure .str
 ·exact .str
theorem entryR_call (s : Nat) (r : Nat) (hr0 : 0 < r) (hr1 : r < 128) (hs : s < 128) (A B : List V) (hm : PCall prog 88 [.agg [.sl 1 A], .agg [.sl 1 B]] (.bool true)) : PCall prog 46 [.agg [.int .i64 s, .int .i64 0, .int .i64 r, .int .i64 (-1), .sl 1 A], .agg [.sl 1 B]] (.str (wr 48 (entC s [exRea r]))) := by
 have e0 : PCall prog 45 [.int .i64 0] (.tup [.str (timeB 0), .int .i64 0]) := etime_call 0 (by omega)
 have hn := number_call 2 s ⟨by omega, by omega, by omega⟩ hs
 have hr : PCall prog 50 [.int .i64 10, .int .i64 r] (.str (wr 10 [UInt8.ofNat r])) := number_call 10 r ⟨by omega, by omega, by omega⟩ (by omega)
 have g : ¬ r = 0 := by omega
 have hx : PCall prog 90 [.sl 1 [.str [50, 46, 53, 46, 50, 57, 46, 50, 49], .bool false, .str (wr 10 [UInt8.ofNat r])]] (.tup [.str (wr 48 (exsC [exRea r])), .int .i64 0]) := encExts_call [exRea r] (by simp) (by simp) (by simp; exact eok_rea r hr1) (dist1 _)
 have hxl := exsC_len [exRea r] (by simp; exact ⟨by simp [exRea], by have := @wr_len 10 [UInt8.ofNat r]; simp [exRea] at *; omega⟩)
 have hxw := @wr_len 48 (exsC [exRea r])
 simp only [List.length_cons, List.length_nil] at hxl
 have hw := wrap7_call 48 [wr 2 [UInt8.ofNat s], timeB 0, wr 48 (exsC [exRea r])] ⟨by omega, by omega, by omega⟩ (by simp) (by have := @wr_len 2 [UInt8.ofNat s]; have : (timeB 0).length = 15 := rfl; simp at *; omega)
 rw [show ([wr 2 [UInt8.ofNat s], timeB 0, wr 48 (exsC [exRea r])] : List Bs).flatten = entC s [exRea r] by simp [entC, xsB]] at hw
 generalize wr 48 (entC s [exRea r]) = R at *
 generalize wr 2 [UInt8.ofNat s] = C at *
 generalize timeB 0 = T at *
 generalize wr 48 (exsC [exRea r]) = S at *
 generalize wr 10 [UInt8.ofNat r] = U at *
 clear hxl hxw
 refine pcall_body func46 rfl call46 ?_ ?_
 rotate_left 1
 refine awp_slots (s' := (.agg [.int .i64 s, .int .i64 0, .int .i64 r, .int .i64 (-1), .sl 1 A] : V) :: (.agg [.sl 1 B] : V) :: zJ 68) rfl ?_; dsimp only [zJ]
 ·repeat' (first | (refine Zu ?_; intro K9 h9; simp (disch := first | exact dd | fail) [g]; refine Zm ?_; ((first | refine Ap hm ?_ | refine Ap e0 ?_ | refine Ap hn ?_ | refine Ap hr ?_ | refine acall_view hx ⟨view_row rfl (by simp) (by simp), trivial⟩ (.tup (by simp)) ?_ | refine acall_view hw ⟨.pure .int, view_row rfl (by simp) (by simp), trivial⟩ .str ?_ | skip) <;> (refine Zf h9 ?_; clear h9 K9))) | refine Zt ?_ | refine Y8 fun K hK => ?_ | (apply hK; clear hK K) | (refine Yb rfl ?_ ?_ <;> intro hcnd <;> (try simp at hcnd) <;> try exact dc) | refine Zx ?_ | clear hK K)
  exact .pure .str
 ·exact .str
theorem entryI_call (s r : Nat) (v : Bs) (hv : VOk v) (hs : s < 128) (hr0 : 0 < r) (hr1 : r < 128) (B : List V) (hm : PCall prog 88 [.agg [nmV (nm1 v)], .agg [.sl 1 B]] (.bool false)) : PCall prog 46 [.agg [.int .i64 s, .int .i64 0, .int .i64 r, .int .i64 (-1), nmV (nm1 v)], .agg [.sl 1 B]] (.str (wr 48 (entC s [exRea r, exIss v]))) := by
 have e0 : PCall prog 45 [.int .i64 0] (.tup [.str (timeB 0), .int .i64 0]) := etime_call 0 (by omega)
 have hn := number_call 2 s ⟨by omega, by omega, by omega⟩ hs
 have hr : PCall prog 50 [.int .i64 10, .int .i64 r] (.str (wr 10 [UInt8.ofNat r])) := number_call 10 r ⟨by omega, by omega, by omega⟩ (by omega)
 have g : ¬ r = 0 := by omega
 have hd := directory_call v hv
 have hnl := nmB_len v hv.len
 have w1 := @wr_len 164 (nmB v)
 have w2 := @wr_len 48 (wr 164 (nmB v))
 have hwd := wrap7_call 48 [wr 164 (nmB v)] ⟨by omega, by omega, by omega⟩ (by simp) (by simp; omega)
 rw [show ([wr 164 (nmB v)] : List Bs).flatten = wr 164 (nmB v) by simp] at hwd
 have hx : PCall prog 90 [.sl 2 [.str [50, 46, 53, 46, 50, 57, 46, 50, 49], .bool false, .str (wr 10 [UInt8.ofNat r]), .str [50, 46, 53, 46, 50, 57, 46, 50, 57], .bool true, .str (wr 48 (wr 164 (nmB v)))]] (.tup [.str (wr 48 (exsC [exRea r, exIss v])), .int .i64 0]) := encExts_call [exRea r, exIss v] (by simp) (by simp) (by simp; exact ⟨eok_rea r hr1, eok_iss v hv⟩) (dist2 (by simp [exRea, exIss]))
 have hxl := exsC_len [exRea r, exIss v] (by simp; exact ⟨⟨by simp [exRea], by have := @wr_len 10 [UInt8.ofNat r]; simp [exRea] at *; omega⟩, ⟨by simp [exIss], by simp [exIss] at *; omega⟩⟩)
 have hxw := @wr_len 48 (exsC [exRea r, exIss v])
 simp only [List.length_cons, List.length_nil] at hxl
 have hw := wrap7_call 48 [wr 2 [UInt8.ofNat s], timeB 0, wr 48 (exsC [exRea r, exIss v])] ⟨by omega, by omega, by omega⟩ (by simp) (by have := @wr_len 2 [UInt8.ofNat s]; have : (timeB 0).length = 15 := rfl; simp at *; omega)
 rw [show ([wr 2 [UInt8.ofNat s], timeB 0, wr 48 (exsC [exRea r, exIss v])] : List Bs).flatten = entC s [exRea r, exIss v] by simp [entC, xsB]] at hw
 have hJ : (nmV (nm1 v)).Pure := .sl
 have hJ1 : (nmV (nm1 v)).one = true := rfl
 generalize nmV (nm1 v) = J at *
 generalize wr 48 (entC s [exRea r, exIss v]) = R at *
 generalize wr 2 [UInt8.ofNat s] = C at *
 generalize timeB 0 = T at *
 generalize wr 48 (exsC [exRea r, exIss v]) = S at *
 generalize wr 10 [UInt8.ofNat r] = U at *
 generalize wr 48 (wr 164 (nmB v)) = Y at *
 generalize wr 164 (nmB v) = Z at *
 clear hxl hxw hnl w1 w2
 refine pcall_body func46 rfl call46 ?_ ?_
 rotate_left 1
 refine awp_slots (s' := (.agg [.int .i64 s, .int .i64 0, .int .i64 r, .int .i64 (-1), J] : V) :: (.agg [.sl 1 B] : V) :: zJ 68) rfl ?_; dsimp only [zJ]
 ·repeat' (first | (refine Zu ?_; intro K9 h9; simp (disch := first | exact dd | fail) [g, hJ1]; refine Zm ?_; ((first | refine acall_pure hm (by simp [hJ]) ?_ | refine Ap e0 ?_ | refine Ap hn ?_ | refine Ap hr ?_ | refine acall_pure hd (by simp [hJ]) ?_ | refine acall_view hwd ⟨.pure .int, view_row rfl (by simp) (by simp), trivial⟩ .str ?_ | refine acall_view hx ⟨view_row rfl (by simp) (by simp), trivial⟩ (.tup (by simp)) ?_ | refine acall_view hw ⟨.pure .int, view_row rfl (by simp) (by simp), trivial⟩ .str ?_ | skip) <;> (refine Zf h9 ?_; clear h9 K9))) | refine Zt ?_ | refine Y8 fun K hK => ?_ | (apply hK; clear hK K) | (refine Yb rfl ?_ ?_ <;> intro hcnd <;> (try simp at hcnd) <;> try exact dc) | refine Zx ?_ | clear hK K)
  exact .pure .str
 ·exact .str
end Go.Proofs.YtnpndfmbkmbhbaaGreatDoor
