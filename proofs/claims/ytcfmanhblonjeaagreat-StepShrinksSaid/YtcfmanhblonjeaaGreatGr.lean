/-
  HOST: bits of addresses.
  HOST: AddressWithin.
  HOST: ranges of addresses by the definition.
  HOST: AddressWithin by the definition.
  Conditions: none.
-/
import Derived.Test.YtcfmanhblonjeaaGreatGp
import Derived.Test.YtcfmanhblonjeaaGreatTab
import Derived.Test.YtcfmanhblonjeaaGreatGd
import Derived.Test.YtcfmanhblonjeaaGreatGi
import Derived.Test.YtcfmanhblonjeaaGreatVs30
import Derived.Test.YtcfmanhblonjeaaGreatVs31
namespace Go.Proofs.YtcfmanhblonjeaaGreat.Ho
open Go.VS Go.Hst
set_option linter.all false
set_option maxRecDepth 100000
attribute [local irreducible] arun arunD arunU AWp aend
def bitB (m : List UInt8) (i : Nat) : Bool := (m.getD (i / 8) 0).toNat / 2 ^ (7 - i % 8) % 2 == 1
def anyZ (m : List UInt8) (i : Nat) : Bool := (List.range i).any fun j => !bitB m j
def okR (a m : List UInt8) (i : Nat) : Bool := if bitB m i = true then !anyZ m i else !bitB a i
def rngH (b : List UInt8) (h : Nat) : Bool := (List.range (8 * h)).all (okR (b.take h) (b.drop h))
def rngB (b : List UInt8) : Bool := (decide (b.length = 8) && rngH b 4) || (decide (b.length = 32) && rngH b 16)
def addrB (b : List UInt8) : Bool := decide (b.length = 4) || decide (b.length = 16)
theorem anyZ_succ (m : List UInt8) (i : Nat) : anyZ m (i + 1) = (anyZ m i || !bitB m i) := by simp [anyZ, List.range_succ]
theorem rangeAll_no {n i : Nat} {p : Nat → Bool} (hi : i < n) (h : p i = false) : (List.range n).all p = false := by
  rw [List.all_eq_false]; exact ⟨i, List.mem_range.2 hi, by simp [h]⟩
theorem rangeAll_yes {n : Nat} {p : Nat → Bool} (h : ∀ i, i < n → p i = true) : (List.range n).all p = true := by
  rw [List.all_eq_true]; exact fun i hi => h i (List.mem_range.1 hi)

theorem raddr_call (b : List UInt8) (hb : b.length ≤ 1000000) : PCall Tryz.prog 86 [.str b] (.bool (addrB b)) := by
  refine pcall_body Tryz.func86 rfl Tryz.call86 ?_ ?_
  rotate_left 1
  refine awp_slots (s' := (.str b : V) :: zJ 10) rfl ?_; dsimp only [zJ]
  by_cases h1 : b.length = 4
  · have h1' : (b.length : Int) = 4 := by omega
    repeat' (first | ((first | refine Yl rfl fun K9 h9 => ?_ | (refine Ym ?_ ?_; (focus (simp [h1, h1']; done)); intro K9 h9)); simp (disch := (first | (simp; done) | omega | (simp; omega))) [h1, h1']; (try simp (disch := (first | omega | (simp; omega))) only [X7]); ((repeat (refine Yz ?_)); (first | refine h9 _ _ (Yp ?_)); clear h9 K9)) | refine Yo ?_ | (refine Y8 fun K hK => ?_) | refine Yq ?_ | (apply hK; clear hK K) | (refine Ye ?_; refine Yf ?_) | (refine Yn ?_ ?_; (focus (simp [h1, h1']; done)); refine Yp ?_) | refine Yg ?_ | (simp only [X0, Nat.reduceBEq]) | clear hK K)
    simp [addrB, h1]
    exact .pure .bool
  · have h1' : ¬ (b.length : Int) = 4 := by omega
    by_cases h2 : b.length = 16
    · have h2' : (b.length : Int) = 16 := by omega
      repeat' (first | ((first | refine Yl rfl fun K9 h9 => ?_ | (refine Ym ?_ ?_; (focus (simp [h1', h2, h2']; done)); intro K9 h9)); simp (disch := (first | (simp; done) | omega | (simp; omega))) [h1', h2, h2']; (try simp (disch := (first | omega | (simp; omega))) only [X7]); ((repeat (refine Yz ?_)); (first | refine h9 _ _ (Yp ?_)); clear h9 K9)) | refine Yo ?_ | (refine Y8 fun K hK => ?_) | refine Yq ?_ | (apply hK; clear hK K) | (refine Ye ?_; refine Yf ?_) | (refine Yn ?_ ?_; (focus (simp [h1', h2, h2']; done)); refine Yp ?_) | refine Yg ?_ | (simp only [X0, Nat.reduceBEq]) | clear hK K)
      simp [addrB, h2]
      exact .pure .bool
    · have h2' : ¬ (b.length : Int) = 16 := by omega
      have e : ((b.length : Int) == 16) = false := beq_false_of_ne h2'
      repeat' (first | ((first | refine Yl rfl fun K9 h9 => ?_ | (refine Ym ?_ ?_; (focus (simp [h1', h2']; done)); intro K9 h9)); simp (disch := (first | (simp; done) | omega | (simp; omega))) [h1', h2']; (try simp (disch := (first | omega | (simp; omega))) only [X7]); ((repeat (refine Yz ?_)); (first | refine h9 _ _ (Yp ?_)); clear h9 K9)) | refine Yo ?_ | (refine Y8 fun K hK => ?_) | refine Yq ?_ | (apply hK; clear hK K) | (refine Ye ?_; refine Yf ?_) | (refine Yn ?_ ?_; (focus (simp [h1', h2']; done)); refine Yp ?_) | refine Yg ?_ | (simp only [X0, Nat.reduceBEq]) | clear hK K)
      simp [addrB, h1, h2, e]
      exact .pure .bool
  · exact .bool

theorem rng_no {b : List UInt8} (h1 : b.length ≠ 8) (h2 : b.length ≠ 32) : rngB b = false := by simp [rngB, h1, h2]
theorem rng_8 {b : List UInt8} (h : b.length = 8) : rngB b = rngH b 4 := by simp [rngB, h]
theorem rng_32 {b : List UInt8} (h : b.length = 32) : rngB b = rngH b 16 := by simp [rngB, h]
end Go.Proofs.YtcfmanhblonjeaaGreat.Ho
namespace Go.Proofs.YtcfmanhblonjeaaGreat.Ho
open Go.VS Go.Hst
set_option linter.all false
set_option maxRecDepth 100000
attribute [local irreducible] arun arunD arunU AWp aend
theorem ofInt_u8 (c : UInt8) : BitVec.ofInt IntKind.u8.bits (c.toNat : Int) = c.toBitVec := by
  apply BitVec.eq_of_toNat_eq
  rw [ofInt_nat, BitVec.toNat_ofNat]
  have h : c.toNat < 256 := UInt8.toNat_lt _
  show c.toNat % 2 ^ 8 = c.toNat
  omega
theorem wrap_small (n : Nat) (h : n < 256) : IntKind.u8.wrap (n : Int) = n := by rw [wrap_u8']; omega
theorem and_u8 (c d : UInt8) : bits .and .u8 (c.toNat : Int) (d.toNat : Int) = ((c &&& d).toNat : Int) := by
  unfold bits
  simp only [ofInt_u8]
  exact wrap_small _ (c &&& d).toNat_lt
def andAt (a m b : List UInt8) (i : Nat) : Bool := (a.getD i 0 &&& m.getD i 0) == b.getD i 0
def subAt (m o : List UInt8) (i : Nat) : Bool := (m.getD i 0 &&& ~~~(o.getD i 0)) == 0
def inAll (a m b : List UInt8) (h : Nat) : Bool := (List.range h).all (andAt a m b)
def subAll (m o : List UInt8) (h : Nat) : Bool := (List.range h).all (subAt m o)
def awH (a r : List UInt8) (h : Nat) : Bool :=
  if a.length = r.length ∧ rngB a = true then subAll (r.drop h) (a.drop h) h && inAll (a.take h) (r.drop h) (r.take h) h else decide (a.length = h) && (addrB a && inAll a (r.drop h) (r.take h) h)
def awithinB (a r : List UInt8) : Bool := rngB r && awH a r (r.length / 2)

theorem rng_len {b : List UInt8} (h : rngB b = true) : b.length = 8 ∨ b.length = 32 := by
  by_cases h8 : b.length = 8
  · exact .inl h8
  by_cases h32 : b.length = 32
  · exact .inr h32
  rw [rng_no h8 h32] at h; cases h
theorem getD_at {l : List UInt8} {i : Nat} (h : i < l.length) : l.getD i 0 = l[i] := by
  rw [List.getD_eq_getElem?_getD, List.getElem?_eq_getElem h]; rfl

end Go.Proofs.YtcfmanhblonjeaaGreat.Ho
namespace Go.Proofs.YtcfmanhblonjeaaGreat.Ho
open Go.VS Go.Hst
set_option linter.all false
set_option maxRecDepth 100000
attribute [local irreducible] arun arunD arunU AWp aend
theorem bit_int (c : UInt8) (s : Nat) : (((c.toNat : Int) / 2 ^ s).tmod 2 == 1) = (c.toNat / 2 ^ s % 2 == 1) := by
  have : (c.toNat : Int) / 2 ^ s = ((c.toNat / 2 ^ s : Nat) : Int) := by simp
  rw [this]
  generalize c.toNat / 2 ^ s = y
  rw [Int.tmod_eq_emod_of_nonneg (by omega), Bool.eq_iff_iff]; simp; omega

set_option maxHeartbeats 8000000 in
theorem rrange_call (b : List UInt8) (hb : b.length ≤ 1000000) : PCall Tryz.prog 85 [.str b] (.bool (rngB b)) := by
  refine pcall_body Tryz.func85 rfl Tryz.call85 ?_ ?_
  rotate_left 1
  refine awp_slots (s' := (.str b : V) :: zJ 60) rfl ?_; dsimp only [zJ]
  by_cases h8 : b.length = 8
  · rw [rng_8 h8]
    obtain ⟨h, hh⟩ : ∃ h, 4 = h := ⟨_, rfl⟩
    rw [show rngH b 4 = rngH b h by rw [hh]]
    unfold rngH
    obtain ⟨n, hn⟩ : ∃ n, 8 * h = n := ⟨_, rfl⟩
    rw [hn]
    have f8 : ((b.length : Int) != 8) = false := by rw [h8]; rfl
    have f32 : ((b.length : Int) != 32) = true := by rw [h8]; rfl
    have hbl : b.length = 2 * h := by omega
    have e0 : (b.length : Int) / 2 = h := by omega
    have hh2 : h ≤ 16 := by omega
    clear hh h8
    obtain ⟨a, ha⟩ : ∃ a, b.take h = a := ⟨_, rfl⟩
    obtain ⟨m, hm⟩ : ∃ a, b.drop h = a := ⟨_, rfl⟩
    rw [ha, hm]
    repeat' (first | ((first | refine Yl rfl fun K9 h9 => ?_ | (refine Ym ?_ ?_; (focus (simp [f8, f32, e0]; done)); intro K9 h9)); simp (disch := (first | (simp; done) | omega | (simp; omega))) [f8, f32, e0]; (try simp (disch := (first | omega | (simp; omega))) only [X7]); ((repeat (refine Yz ?_)); (first | refine h9 _ _ (Yp ?_)); clear h9 K9)) | refine Yo ?_ | (refine Y8 fun K hK => ?_) | refine Yq ?_ | (apply hK; clear hK K) | refine Ya ?_ | (refine Yb rfl (fun hcnd => ?_) (fun hcnd => ?_) <;> (try simp at hcnd) <;> (try contradiction) <;> (try (exfalso; omega))) | refine Yc ?_ | (refine Yd ?_; simp only [X0, Nat.reduceBEq]) | (refine Ye ?_; refine Yf ?_) | (refine Yn ?_ ?_; (focus (simp [f8, f32, e0]; done)); refine Yp ?_) | refine Yg ?_ | (simp only [X0, Nat.reduceBEq]) | clear hK K)
    refine awp_loopU (α := Nat) (fun i => (zN 2 (some V.junk :: none :: some (V.bool (anyZ m i)) :: some (V.int .i64 i) :: zS 55 []))) (fun i => []) (fun i => i ≤ n ∧ ∀ j, j < i → okR a m j = true) (fun i => n - i) 0 ⟨by omega, fun j h => by omega⟩ ?_ ?_
    · dsimp only [ups, zN, zS]
      exact Le.mk [] (by simp [anyZ]) (rowsRen_of (by simp) (by simp [rowsOver])) (by simp)
    rintro i ⟨hi, hall⟩ KL hL
    dsimp only [ups, zN, zS]
    rcases Nat.lt_or_ge i n with hi | hi
    · have hstep : okR a m i = true → i + 1 ≤ n ∧ ∀ j, j < i + 1 → okR a m j = true := fun hx => ⟨by omega, fun j h => by
        rcases Nat.lt_or_ge j i with h3 | h3
        · exact hall j h3
        · obtain rfl : j = i := by omega
          exact hx⟩
      have hno : okR a m i = false → (List.range n).all (okR a m) = false := rangeAll_no hi
      have hz := anyZ_succ m i
      have hi8 : (i : Int) < 8 * h := by omega
      have hq1 : i / 8 < b.length := by omega
      have hq2 : h + i / 8 < b.length := by omega
      have e1 : ((i : Int) / 8).toNat = i / 8 := by omega
      have e2 : ((h : Int) + (i : Int) / 8).toNat = h + i / 8 := by omega
      obtain ⟨r, hr⟩ : ∃ r, i % 8 = r := ⟨_, rfl⟩
      have hr8 : r < 8 := by omega
      have e3 : (i : Int) % 8 = r := by omega
      have e4 : ((7 : Int) - r).toNat = 7 - r := by omega
      have e5 : min (7 - r) 8 = 7 - r := by omega
      obtain ⟨c, hc⟩ : ∃ c, b[h + i / 8] = c := ⟨_, rfl⟩
      obtain ⟨d, hd⟩ : ∃ c, b[i / 8] = c := ⟨_, rfl⟩
      have hb1 : bitB m i = (c.toNat / 2 ^ (7 - r) % 2 == 1) := by
        rw [bitB, hr, ← hm, List.getD_eq_getElem?_getD, List.getElem?_drop, List.getElem?_eq_getElem hq2, hc]; rfl
      have hb2 : bitB a i = (d.toNat / 2 ^ (7 - r) % 2 == 1) := by
        rw [bitB, hr, ← ha, List.getD_eq_getElem?_getD, List.getElem?_take, if_pos (by omega), List.getElem?_eq_getElem hq1, hd]; rfl
      have v1 := (bit_int c (7 - r)).trans hb1.symm
      have v2 := (bit_int d (7 - r)).trans hb2.symm
      clear hb1 hb2
      cases b1 : bitB m i <;> rw [b1] at v1 hz
      · cases b2 : bitB a i <;> rw [b2] at v2
        · cases b3 : anyZ m i <;> rw [b3] at hz
          · repeat' (first | ((first | refine Yl rfl fun K9 h9 => ?_ | (refine Ym ?_ ?_; (focus (simp [hi8, e1, e2, e3, e4, e5, hc, hd, v1, v2]; done)); intro K9 h9)); simp (disch := (first | (simp; done) | omega | (simp; omega))) [hi8, e1, e2, e3, e4, e5, hc, hd, v1, v2]; (try simp (disch := (first | omega | (simp; omega))) only [X7]); ((repeat (refine Yz ?_)); (first | refine h9 _ _ (Yp ?_)); clear h9 K9)) | refine Yo ?_ | (refine Y8 fun K hK => ?_) | refine Yq ?_ | (apply hK; clear hK K) | refine Ya ?_ | (refine Yb rfl (fun hcnd => ?_) (fun hcnd => ?_) <;> (try simp at hcnd) <;> (try contradiction) <;> (try (exfalso; omega))) | refine Yc ?_ | (refine Yd ?_; simp only [X0, Nat.reduceBEq]) | (refine Ye ?_; refine Yf ?_) | (refine Yn ?_ ?_; (focus (simp [hi8, e1, e2, e3, e4, e5, hc, hd, v1, v2]; done)); refine Yp ?_) | refine Yg ?_ | (simp only [X0, Nat.reduceBEq]) | clear hK K)
            refine hL (i + 1) _ _ (hstep (by simp [okR, b1, b2])) (by omega) ?_
            rw [hz]
            exact Yr [] (by simp [rowsOver])
          · repeat' (first | ((first | refine Yl rfl fun K9 h9 => ?_ | (refine Ym ?_ ?_; (focus (simp [hi8, e1, e2, e3, e4, e5, hc, hd, v1, v2]; done)); intro K9 h9)); simp (disch := (first | (simp; done) | omega | (simp; omega))) [hi8, e1, e2, e3, e4, e5, hc, hd, v1, v2]; (try simp (disch := (first | omega | (simp; omega))) only [X7]); ((repeat (refine Yz ?_)); (first | refine h9 _ _ (Yp ?_)); clear h9 K9)) | refine Yo ?_ | (refine Y8 fun K hK => ?_) | refine Yq ?_ | (apply hK; clear hK K) | refine Ya ?_ | (refine Yb rfl (fun hcnd => ?_) (fun hcnd => ?_) <;> (try simp at hcnd) <;> (try contradiction) <;> (try (exfalso; omega))) | refine Yc ?_ | (refine Yd ?_; simp only [X0, Nat.reduceBEq]) | (refine Ye ?_; refine Yf ?_) | (refine Yn ?_ ?_; (focus (simp [hi8, e1, e2, e3, e4, e5, hc, hd, v1, v2]; done)); refine Yp ?_) | refine Yg ?_ | (simp only [X0, Nat.reduceBEq]) | clear hK K)
            refine hL (i + 1) _ _ (hstep (by simp [okR, b1, b2])) (by omega) ?_
            rw [hz]
            exact Yr [] (by simp [rowsOver])
        · repeat' (first | ((first | refine Yl rfl fun K9 h9 => ?_ | (refine Ym ?_ ?_; (focus (simp [hi8, e1, e2, e3, e4, e5, hc, hd, v1, v2]; done)); intro K9 h9)); simp (disch := (first | (simp; done) | omega | (simp; omega))) [hi8, e1, e2, e3, e4, e5, hc, hd, v1, v2]; (try simp (disch := (first | omega | (simp; omega))) only [X7]); ((repeat (refine Yz ?_)); (first | refine h9 _ _ (Yp ?_)); clear h9 K9)) | refine Yo ?_ | (refine Y8 fun K hK => ?_) | refine Yq ?_ | (apply hK; clear hK K) | refine Ya ?_ | (refine Yb rfl (fun hcnd => ?_) (fun hcnd => ?_) <;> (try simp at hcnd) <;> (try contradiction) <;> (try (exfalso; omega))) | refine Yc ?_ | (refine Yd ?_; simp only [X0, Nat.reduceBEq]) | (refine Ye ?_; refine Yf ?_) | (refine Yn ?_ ?_; (focus (simp [hi8, e1, e2, e3, e4, e5, hc, hd, v1, v2]; done)); refine Yp ?_) | refine Yg ?_ | (simp only [X0, Nat.reduceBEq]) | clear hK K)
          rw [hno (by simp [okR, b1, b2])]
          exact .pure .bool
      · cases b2 : anyZ m i <;> rw [b2] at hz
        · repeat' (first | ((first | refine Yl rfl fun K9 h9 => ?_ | (refine Ym ?_ ?_; (focus (simp [hi8, e1, e2, e3, e4, e5, hc, hd, v1]; done)); intro K9 h9)); simp (disch := (first | (simp; done) | omega | (simp; omega))) [hi8, e1, e2, e3, e4, e5, hc, hd, v1]; (try simp (disch := (first | omega | (simp; omega))) only [X7]); ((repeat (refine Yz ?_)); (first | refine h9 _ _ (Yp ?_)); clear h9 K9)) | refine Yo ?_ | (refine Y8 fun K hK => ?_) | refine Yq ?_ | (apply hK; clear hK K) | refine Ya ?_ | (refine Yb rfl (fun hcnd => ?_) (fun hcnd => ?_) <;> (try simp at hcnd) <;> (try contradiction) <;> (try (exfalso; omega))) | refine Yc ?_ | (refine Yd ?_; simp only [X0, Nat.reduceBEq]) | (refine Ye ?_; refine Yf ?_) | (refine Yn ?_ ?_; (focus (simp [hi8, e1, e2, e3, e4, e5, hc, hd, v1]; done)); refine Yp ?_) | refine Yg ?_ | (simp only [X0, Nat.reduceBEq]) | clear hK K)
          refine hL (i + 1) _ _ (hstep (by simp [okR, b1, b2])) (by omega) ?_
          rw [hz]
          exact Yr [] (by simp [rowsOver])
        · repeat' (first | ((first | refine Yl rfl fun K9 h9 => ?_ | (refine Ym ?_ ?_; (focus (simp [hi8, e1, e2, e3, e4, e5, hc, hd, v1]; done)); intro K9 h9)); simp (disch := (first | (simp; done) | omega | (simp; omega))) [hi8, e1, e2, e3, e4, e5, hc, hd, v1]; (try simp (disch := (first | omega | (simp; omega))) only [X7]); ((repeat (refine Yz ?_)); (first | refine h9 _ _ (Yp ?_)); clear h9 K9)) | refine Yo ?_ | (refine Y8 fun K hK => ?_) | refine Yq ?_ | (apply hK; clear hK K) | refine Ya ?_ | (refine Yb rfl (fun hcnd => ?_) (fun hcnd => ?_) <;> (try simp at hcnd) <;> (try contradiction) <;> (try (exfalso; omega))) | refine Yc ?_ | (refine Yd ?_; simp only [X0, Nat.reduceBEq]) | (refine Ye ?_; refine Yf ?_) | (refine Yn ?_ ?_; (focus (simp [hi8, e1, e2, e3, e4, e5, hc, hd, v1]; done)); refine Yp ?_) | refine Yg ?_ | (simp only [X0, Nat.reduceBEq]) | clear hK K)
          rw [hno (by simp [okR, b1, b2])]
          exact .pure .bool
    · have hi8 : ¬ (i : Int) < 8 * h := by omega
      repeat' (first | ((first | refine Yl rfl fun K9 h9 => ?_ | (refine Ym ?_ ?_; (focus (simp [hi8]; done)); intro K9 h9)); simp (disch := (first | (simp; done) | omega | (simp; omega))) [hi8]; (try simp (disch := (first | omega | (simp; omega))) only [X7]); ((repeat (refine Yz ?_)); (first | refine h9 _ _ (Yp ?_)); clear h9 K9)) | refine Yo ?_ | (refine Y8 fun K hK => ?_) | refine Yq ?_ | (apply hK; clear hK K) | refine Ya ?_ | (refine Yb rfl (fun hcnd => ?_) (fun hcnd => ?_) <;> (try simp at hcnd) <;> (try contradiction) <;> (try (exfalso; omega))) | refine Yc ?_ | (refine Yd ?_; simp only [X0, Nat.reduceBEq]) | (refine Ye ?_; refine Yf ?_) | (refine Yn ?_ ?_; (focus (simp [hi8]; done)); refine Yp ?_) | refine Yg ?_ | (simp only [X0, Nat.reduceBEq]) | clear hK K)
      rw [rangeAll_yes fun j hj => hall j (by omega)]
      exact .pure .bool
  by_cases h32 : b.length = 32
  · rw [rng_32 h32]
    obtain ⟨h, hh⟩ : ∃ h, 16 = h := ⟨_, rfl⟩
    rw [show rngH b 16 = rngH b h by rw [hh]]
    unfold rngH
    obtain ⟨n, hn⟩ : ∃ n, 8 * h = n := ⟨_, rfl⟩
    rw [hn]
    have f8 : ((b.length : Int) != 8) = true := by rw [h32]; rfl
    have f32 : ((b.length : Int) != 32) = false := by rw [h32]; rfl
    have hbl : b.length = 2 * h := by omega
    have e0 : (b.length : Int) / 2 = h := by omega
    have hh2 : h ≤ 16 := by omega
    clear hh h32
    obtain ⟨a, ha⟩ : ∃ a, b.take h = a := ⟨_, rfl⟩
    obtain ⟨m, hm⟩ : ∃ a, b.drop h = a := ⟨_, rfl⟩
    rw [ha, hm]
    repeat' (first | ((first | refine Yl rfl fun K9 h9 => ?_ | (refine Ym ?_ ?_; (focus (simp [f8, f32, e0]; done)); intro K9 h9)); simp (disch := (first | (simp; done) | omega | (simp; omega))) [f8, f32, e0]; (try simp (disch := (first | omega | (simp; omega))) only [X7]); ((repeat (refine Yz ?_)); (first | refine h9 _ _ (Yp ?_)); clear h9 K9)) | refine Yo ?_ | (refine Y8 fun K hK => ?_) | refine Yq ?_ | (apply hK; clear hK K) | refine Ya ?_ | (refine Yb rfl (fun hcnd => ?_) (fun hcnd => ?_) <;> (try simp at hcnd) <;> (try contradiction) <;> (try (exfalso; omega))) | refine Yc ?_ | (refine Yd ?_; simp only [X0, Nat.reduceBEq]) | (refine Ye ?_; refine Yf ?_) | (refine Yn ?_ ?_; (focus (simp [f8, f32, e0]; done)); refine Yp ?_) | refine Yg ?_ | (simp only [X0, Nat.reduceBEq]) | clear hK K)
    refine awp_loopU (α := Nat) (fun i => (zN 2 (some V.junk :: none :: some (V.bool (anyZ m i)) :: some (V.int .i64 i) :: zS 55 []))) (fun i => []) (fun i => i ≤ n ∧ ∀ j, j < i → okR a m j = true) (fun i => n - i) 0 ⟨by omega, fun j h => by omega⟩ ?_ ?_
    · dsimp only [ups, zN, zS]
      exact Le.mk [] (by simp [anyZ]) (rowsRen_of (by simp) (by simp [rowsOver])) (by simp)
    rintro i ⟨hi, hall⟩ KL hL
    dsimp only [ups, zN, zS]
    rcases Nat.lt_or_ge i n with hi | hi
    · have hstep : okR a m i = true → i + 1 ≤ n ∧ ∀ j, j < i + 1 → okR a m j = true := fun hx => ⟨by omega, fun j h => by
        rcases Nat.lt_or_ge j i with h3 | h3
        · exact hall j h3
        · obtain rfl : j = i := by omega
          exact hx⟩
      have hno : okR a m i = false → (List.range n).all (okR a m) = false := rangeAll_no hi
      have hz := anyZ_succ m i
      have hi8 : (i : Int) < 8 * h := by omega
      have hq1 : i / 8 < b.length := by omega
      have hq2 : h + i / 8 < b.length := by omega
      have e1 : ((i : Int) / 8).toNat = i / 8 := by omega
      have e2 : ((h : Int) + (i : Int) / 8).toNat = h + i / 8 := by omega
      obtain ⟨r, hr⟩ : ∃ r, i % 8 = r := ⟨_, rfl⟩
      have hr8 : r < 8 := by omega
      have e3 : (i : Int) % 8 = r := by omega
      have e4 : ((7 : Int) - r).toNat = 7 - r := by omega
      have e5 : min (7 - r) 8 = 7 - r := by omega
      obtain ⟨c, hc⟩ : ∃ c, b[h + i / 8] = c := ⟨_, rfl⟩
      obtain ⟨d, hd⟩ : ∃ c, b[i / 8] = c := ⟨_, rfl⟩
      have hb1 : bitB m i = (c.toNat / 2 ^ (7 - r) % 2 == 1) := by
        rw [bitB, hr, ← hm, List.getD_eq_getElem?_getD, List.getElem?_drop, List.getElem?_eq_getElem hq2, hc]; rfl
      have hb2 : bitB a i = (d.toNat / 2 ^ (7 - r) % 2 == 1) := by
        rw [bitB, hr, ← ha, List.getD_eq_getElem?_getD, List.getElem?_take, if_pos (by omega), List.getElem?_eq_getElem hq1, hd]; rfl
      have v1 := (bit_int c (7 - r)).trans hb1.symm
      have v2 := (bit_int d (7 - r)).trans hb2.symm
      clear hb1 hb2
      cases b1 : bitB m i <;> rw [b1] at v1 hz
      · cases b2 : bitB a i <;> rw [b2] at v2
        · cases b3 : anyZ m i <;> rw [b3] at hz
          · repeat' (first | ((first | refine Yl rfl fun K9 h9 => ?_ | (refine Ym ?_ ?_; (focus (simp [hi8, e1, e2, e3, e4, e5, hc, hd, v1, v2]; done)); intro K9 h9)); simp (disch := (first | (simp; done) | omega | (simp; omega))) [hi8, e1, e2, e3, e4, e5, hc, hd, v1, v2]; (try simp (disch := (first | omega | (simp; omega))) only [X7]); ((repeat (refine Yz ?_)); (first | refine h9 _ _ (Yp ?_)); clear h9 K9)) | refine Yo ?_ | (refine Y8 fun K hK => ?_) | refine Yq ?_ | (apply hK; clear hK K) | refine Ya ?_ | (refine Yb rfl (fun hcnd => ?_) (fun hcnd => ?_) <;> (try simp at hcnd) <;> (try contradiction) <;> (try (exfalso; omega))) | refine Yc ?_ | (refine Yd ?_; simp only [X0, Nat.reduceBEq]) | (refine Ye ?_; refine Yf ?_) | (refine Yn ?_ ?_; (focus (simp [hi8, e1, e2, e3, e4, e5, hc, hd, v1, v2]; done)); refine Yp ?_) | refine Yg ?_ | (simp only [X0, Nat.reduceBEq]) | clear hK K)
            refine hL (i + 1) _ _ (hstep (by simp [okR, b1, b2])) (by omega) ?_
            rw [hz]
            exact Yr [] (by simp [rowsOver])
          · repeat' (first | ((first | refine Yl rfl fun K9 h9 => ?_ | (refine Ym ?_ ?_; (focus (simp [hi8, e1, e2, e3, e4, e5, hc, hd, v1, v2]; done)); intro K9 h9)); simp (disch := (first | (simp; done) | omega | (simp; omega))) [hi8, e1, e2, e3, e4, e5, hc, hd, v1, v2]; (try simp (disch := (first | omega | (simp; omega))) only [X7]); ((repeat (refine Yz ?_)); (first | refine h9 _ _ (Yp ?_)); clear h9 K9)) | refine Yo ?_ | (refine Y8 fun K hK => ?_) | refine Yq ?_ | (apply hK; clear hK K) | refine Ya ?_ | (refine Yb rfl (fun hcnd => ?_) (fun hcnd => ?_) <;> (try simp at hcnd) <;> (try contradiction) <;> (try (exfalso; omega))) | refine Yc ?_ | (refine Yd ?_; simp only [X0, Nat.reduceBEq]) | (refine Ye ?_; refine Yf ?_) | (refine Yn ?_ ?_; (focus (simp [hi8, e1, e2, e3, e4, e5, hc, hd, v1, v2]; done)); refine Yp ?_) | refine Yg ?_ | (simp only [X0, Nat.reduceBEq]) | clear hK K)
            refine hL (i + 1) _ _ (hstep (by simp [okR, b1, b2])) (by omega) ?_
            rw [hz]
            exact Yr [] (by simp [rowsOver])
        · repeat' (first | ((first | refine Yl rfl fun K9 h9 => ?_ | (refine Ym ?_ ?_; (focus (simp [hi8, e1, e2, e3, e4, e5, hc, hd, v1, v2]; done)); intro K9 h9)); simp (disch := (first | (simp; done) | omega | (simp; omega))) [hi8, e1, e2, e3, e4, e5, hc, hd, v1, v2]; (try simp (disch := (first | omega | (simp; omega))) only [X7]); ((repeat (refine Yz ?_)); (first | refine h9 _ _ (Yp ?_)); clear h9 K9)) | refine Yo ?_ | (refine Y8 fun K hK => ?_) | refine Yq ?_ | (apply hK; clear hK K) | refine Ya ?_ | (refine Yb rfl (fun hcnd => ?_) (fun hcnd => ?_) <;> (try simp at hcnd) <;> (try contradiction) <;> (try (exfalso; omega))) | refine Yc ?_ | (refine Yd ?_; simp only [X0, Nat.reduceBEq]) | (refine Ye ?_; refine Yf ?_) | (refine Yn ?_ ?_; (focus (simp [hi8, e1, e2, e3, e4, e5, hc, hd, v1, v2]; done)); refine Yp ?_) | refine Yg ?_ | (simp only [X0, Nat.reduceBEq]) | clear hK K)
          rw [hno (by simp [okR, b1, b2])]
          exact .pure .bool
      · cases b2 : anyZ m i <;> rw [b2] at hz
        · repeat' (first | ((first | refine Yl rfl fun K9 h9 => ?_ | (refine Ym ?_ ?_; (focus (simp [hi8, e1, e2, e3, e4, e5, hc, hd, v1]; done)); intro K9 h9)); simp (disch := (first | (simp; done) | omega | (simp; omega))) [hi8, e1, e2, e3, e4, e5, hc, hd, v1]; (try simp (disch := (first | omega | (simp; omega))) only [X7]); ((repeat (refine Yz ?_)); (first | refine h9 _ _ (Yp ?_)); clear h9 K9)) | refine Yo ?_ | (refine Y8 fun K hK => ?_) | refine Yq ?_ | (apply hK; clear hK K) | refine Ya ?_ | (refine Yb rfl (fun hcnd => ?_) (fun hcnd => ?_) <;> (try simp at hcnd) <;> (try contradiction) <;> (try (exfalso; omega))) | refine Yc ?_ | (refine Yd ?_; simp only [X0, Nat.reduceBEq]) | (refine Ye ?_; refine Yf ?_) | (refine Yn ?_ ?_; (focus (simp [hi8, e1, e2, e3, e4, e5, hc, hd, v1]; done)); refine Yp ?_) | refine Yg ?_ | (simp only [X0, Nat.reduceBEq]) | clear hK K)
          refine hL (i + 1) _ _ (hstep (by simp [okR, b1, b2])) (by omega) ?_
          rw [hz]
          exact Yr [] (by simp [rowsOver])
        · repeat' (first | ((first | refine Yl rfl fun K9 h9 => ?_ | (refine Ym ?_ ?_; (focus (simp [hi8, e1, e2, e3, e4, e5, hc, hd, v1]; done)); intro K9 h9)); simp (disch := (first | (simp; done) | omega | (simp; omega))) [hi8, e1, e2, e3, e4, e5, hc, hd, v1]; (try simp (disch := (first | omega | (simp; omega))) only [X7]); ((repeat (refine Yz ?_)); (first | refine h9 _ _ (Yp ?_)); clear h9 K9)) | refine Yo ?_ | (refine Y8 fun K hK => ?_) | refine Yq ?_ | (apply hK; clear hK K) | refine Ya ?_ | (refine Yb rfl (fun hcnd => ?_) (fun hcnd => ?_) <;> (try simp at hcnd) <;> (try contradiction) <;> (try (exfalso; omega))) | refine Yc ?_ | (refine Yd ?_; simp only [X0, Nat.reduceBEq]) | (refine Ye ?_; refine Yf ?_) | (refine Yn ?_ ?_; (focus (simp [hi8, e1, e2, e3, e4, e5, hc, hd, v1]; done)); refine Yp ?_) | refine Yg ?_ | (simp only [X0, Nat.reduceBEq]) | clear hK K)
          rw [hno (by simp [okR, b1, b2])]
          exact .pure .bool
    · have hi8 : ¬ (i : Int) < 8 * h := by omega
      repeat' (first | ((first | refine Yl rfl fun K9 h9 => ?_ | (refine Ym ?_ ?_; (focus (simp [hi8]; done)); intro K9 h9)); simp (disch := (first | (simp; done) | omega | (simp; omega))) [hi8]; (try simp (disch := (first | omega | (simp; omega))) only [X7]); ((repeat (refine Yz ?_)); (first | refine h9 _ _ (Yp ?_)); clear h9 K9)) | refine Yo ?_ | (refine Y8 fun K hK => ?_) | refine Yq ?_ | (apply hK; clear hK K) | refine Ya ?_ | (refine Yb rfl (fun hcnd => ?_) (fun hcnd => ?_) <;> (try simp at hcnd) <;> (try contradiction) <;> (try (exfalso; omega))) | refine Yc ?_ | (refine Yd ?_; simp only [X0, Nat.reduceBEq]) | (refine Ye ?_; refine Yf ?_) | (refine Yn ?_ ?_; (focus (simp [hi8]; done)); refine Yp ?_) | refine Yg ?_ | (simp only [X0, Nat.reduceBEq]) | clear hK K)
      rw [rangeAll_yes fun j hj => hall j (by omega)]
      exact .pure .bool
  · have h8' : ¬ (b.length : Int) = 8 := by omega
    have h32' : ¬ (b.length : Int) = 32 := by omega
    rw [rng_no h8 h32]
    repeat' (first | ((first | refine Yl rfl fun K9 h9 => ?_ | (refine Ym ?_ ?_; (focus (simp [h8', h32']; done)); intro K9 h9)); simp (disch := (first | (simp; done) | omega | (simp; omega))) [h8', h32']; (try simp (disch := (first | omega | (simp; omega))) only [X7]); ((repeat (refine Yz ?_)); (first | refine h9 _ _ (Yp ?_)); clear h9 K9)) | refine Yo ?_ | (refine Y8 fun K hK => ?_) | refine Yq ?_ | (apply hK; clear hK K) | refine Ya ?_ | (refine Yb rfl (fun hcnd => ?_) (fun hcnd => ?_) <;> (try simp at hcnd) <;> (try contradiction) <;> (try (exfalso; omega))) | refine Yc ?_ | (refine Yd ?_; simp only [X0, Nat.reduceBEq]) | (refine Ye ?_; refine Yf ?_) | (refine Yn ?_ ?_; (focus (simp [h8', h32']; done)); refine Yp ?_) | refine Yg ?_ | (simp only [X0, Nat.reduceBEq]) | clear hK K)
    exact .pure .bool
  · exact .bool
end Go.Proofs.YtcfmanhblonjeaaGreat.Ho
namespace Go.Proofs.YtcfmanhblonjeaaGreat.Ho
open Go.VS Go.Hst
set_option linter.all false
set_option maxRecDepth 100000
attribute [local irreducible] arun arunD arunU DU.arunD AWp aend
attribute [local simp] DU.gval
theorem sub_iff (m o : UInt8) : (m &&& ~~~o == 0) = (o &&& m == m) := by
  rw [Bool.eq_iff_iff, beq_iff_eq, beq_iff_eq, ← UInt8.toBitVec_inj, ← UInt8.toBitVec_inj]
  simp only [UInt8.toBitVec_and, UInt8.toBitVec_not]
  constructor
  · intro h
    apply BitVec.eq_of_getLsbD_eq
    intro i hi
    have := congrArg (fun x => x.getLsbD i) h
    simp [hi] at this ⊢
    exact this
  · intro h
    apply BitVec.eq_of_getLsbD_eq
    intro i hi
    have := congrArg (fun x => x.getLsbD i) h
    simp [hi] at this ⊢
    exact this

def wholeB (a : List UInt8) (h : Nat) : Bool := addrB a && decide (a.length = h)
def rAt (a r : List UInt8) (h : Nat) (w : Bool) (i : Nat) : Bool := ((a.getD i 0 &&& r.getD (h + i) 0) == r.getD i 0) && (w || (a.getD (h + i) 0 &&& r.getD (h + i) 0) == r.getD (h + i) 0)
def rawH (a r : List UInt8) (h : Nat) : Bool := (wholeB a h || (rngB a && decide (a.length = r.length))) && (List.range h).all (rAt a r h (wholeB a h))

theorem all_iff' {n : Nat} {p : Nat → Bool} : (List.range n).all p = true ↔ ∀ i, i < n → p i = true := by
  rw [List.all_eq_true]; exact ⟨fun h i hi => h i (List.mem_range.2 hi), fun h i hi => h i (List.mem_range.1 hi)⟩
theorem all_congr {n : Nat} {p q : Nat → Bool} (h : ∀ i, i < n → p i = q i) : (List.range n).all p = (List.range n).all q := by
  rw [Bool.eq_iff_iff, all_iff', all_iff']
  exact ⟨fun k i hi => by rw [← h i hi]; exact k i hi, fun k i hi => by rw [h i hi]; exact k i hi⟩
theorem getD_take {l : List UInt8} {h i : Nat} (hi : i < h) : (l.take h).getD i 0 = l.getD i 0 := by
  rw [List.getD_eq_getElem?_getD, List.getD_eq_getElem?_getD, List.getElem?_take, if_pos hi]
theorem getD_drop {l : List UInt8} {h i : Nat} : (l.drop h).getD i 0 = l.getD (h + i) 0 := by
  rw [List.getD_eq_getElem?_getD, List.getD_eq_getElem?_getD, List.getElem?_drop]

theorem raw_eq (a r : List UInt8) (h : Nat) (hr : r.length = 2 * h) (hh : 0 < h) : rawH a r h = awH a r h := by
  unfold rawH awH
  by_cases h1 : a.length = r.length ∧ rngB a = true
  · rw [if_pos h1, h1.2, decide_eq_true h1.1]
    have hw : wholeB a h = false := by unfold wholeB; simp; intro _; omega
    rw [hw]
    simp only [Bool.and_self, Bool.or_true, Bool.true_and]
    unfold subAll inAll
    rw [Bool.eq_iff_iff, Bool.and_eq_true, all_iff', all_iff', all_iff']
    have key : ∀ i, i < h → (rAt a r h false i = true ↔ subAt (r.drop h) (a.drop h) i = true ∧ andAt (a.take h) (r.drop h) (r.take h) i = true) := by
      intro i hi
      unfold rAt subAt andAt
      rw [getD_take hi, getD_take hi, getD_drop, getD_drop, sub_iff]
      simp only [Bool.false_or, Bool.and_eq_true]
      exact And.comm
    exact ⟨fun k => ⟨fun i hi => ((key i hi).1 (k i hi)).1, fun i hi => ((key i hi).1 (k i hi)).2⟩, fun k i hi => (key i hi).2 ⟨k.1 i hi, k.2 i hi⟩⟩
  · rw [if_neg h1]
    have h2 : (rngB a && decide (a.length = r.length)) = false := by
      rw [Bool.and_eq_false_iff]
      by_cases h3 : a.length = r.length
      · left
        cases hb : rngB a with
        | false => rfl
        | true => exact absurd ⟨h3, hb⟩ h1
      · right; simpa using h3
    rw [h2, Bool.or_false]
    cases hw : wholeB a h
    · unfold wholeB at hw
      have : (decide (a.length = h) && (addrB a && inAll a (r.drop h) (r.take h) h)) = false := by
        rw [← Bool.and_assoc, Bool.and_comm (decide _), hw]; rfl
      rw [this]; rfl
    · unfold wholeB at hw
      rw [Bool.and_eq_true] at hw
      rw [hw.1, hw.2]
      simp only [Bool.true_and]
      unfold inAll
      refine all_congr fun i hi => ?_
      unfold rAt andAt
      rw [getD_take hi, getD_drop]
      simp

set_option maxHeartbeats 8000000 in
theorem rawithin_call (a r : List UInt8) (ha : a.length ≤ 1000000) (hr : r.length ≤ 1000000) : PCall Tryz.prog 69 [.str a, .str r] (.bool (awithinB a r)) := by
  refine pcall_body Tryz.func69 rfl Tryz.call69 ?_ ?_
  rotate_left 1
  refine awp_slots (s' := (.str a : V) :: (.str r : V) :: zJ 75) rfl ?_; dsimp only [zJ]
  have c1 := rrange_call r hr
  have c2 := rrange_call a ha
  have c3 := raddr_call a ha
  unfold awithinB
  cases w1 : rngB r <;> rw [w1] at c1
  · repeat' (first | ((first | refine Yl rfl fun K9 h9 => ?_ | refine Y1 rfl rfl fun K9 h9 => ?_ | refine Y2 rfl rfl fun K9 h9 => ?_ | (refine Ym ?_ ?_; (focus (simp; done)); intro K9 h9) | ((first | refine Y4 rfl ?_ ?_ | refine Y5 rfl ?_ ?_); (focus (simp; done)); intro K9 h9)); simp (disch := (first | (simp; done) | omega | (simp; omega))); (try simp (disch := (first | omega | (simp; omega))) only [X7]); ((first | refine acall_pure (c1) (by simp) ?_ | skip) <;> ((repeat (refine Yz ?_)); (first | refine h9 _ _ (Yp ?_) | refine h9 _ _ (Yt ?_)); clear h9 K9))) | refine Yo ?_ | refine Y7 ?_ | (refine Y8 fun K hK => ?_) | refine Yq ?_ | (apply hK; clear hK K) | ((first | refine Yk (m := 0) (by decide +kernel) [] (by kernel_rfl) (by decide +kernel) ?_); dsimp only [List.replicate, List.append_nil, List.cons_append, List.nil_append, List.length_cons, List.length_nil]) | refine Ya ?_ | (refine Yb rfl (fun hcnd => ?_) (fun hcnd => ?_) <;> (try simp at hcnd) <;> (try contradiction) <;> (try (exfalso; omega))) | refine Yc ?_ | (refine Yd ?_; simp only [X0, Nat.reduceBEq]) | (refine Ye ?_; refine Yf ?_) | (refine Yn ?_ ?_; (focus (simp; done)); refine Yp ?_) | ((first | refine Yi rfl ?_ ?_ | refine Yj rfl ?_ ?_); (focus (simp; done)); refine Yt ?_) | refine Yg ?_ | (simp only [X0, Nat.reduceBEq]) | clear hK K)
    exact .pure .bool
  have hl := rng_len w1
  obtain ⟨h, hh⟩ : ∃ h, r.length / 2 = h := ⟨_, rfl⟩
  have hrl : r.length = 2 * h := by omega
  have hh0 : 0 < h := by omega
  have hh16 : h ≤ 16 := by omega
  have e0 : (r.length : Int) / 2 = h := by omega
  rw [hh, ← raw_eq a r h hrl hh0]
  simp only [Bool.true_and]
  clear hl
  have hdef : rawH a r h = ((wholeB a h || (rngB a && decide (a.length = r.length))) && (List.range h).all (rAt a r h (wholeB a h))) := rfl
  generalize rawH a r h = R at *
  obtain ⟨w, hw⟩ : ∃ w, wholeB a h = w := ⟨_, rfl⟩
  rw [hw] at hdef
  have main : ∀ (pre : (w || (rngB a && decide (a.length = r.length))) = true), R = (List.range h).all (rAt a r h w) := fun pre => by rw [hdef, pre, Bool.true_and]
  have arng : addrB a = true → rngB a = false := fun hA => by
    cases hb : rngB a with
    | false => rfl
    | true =>
      have := rng_len hb
      simp [addrB] at hA
      omega
  cases A : addrB a <;> rw [A] at c3
  case true =>
    have hrn := arng A
    rw [hrn] at c2 hdef
    by_cases g1 : a.length = h
    · have g1' : (a.length : Int) = h := by omega
      obtain rfl : w = true := by rw [← hw]; simp [wholeB, A, g1]
      have hR : R = (List.range h).all (rAt a r h true) := main rfl
      repeat' (first | ((first | refine Yl rfl fun K9 h9 => ?_ | refine DU.arunD_goF rfl rfl fun K9 h9 => ?_ | refine DU.arunD_goT rfl rfl fun K9 h9 => ?_ | (refine Ym ?_ ?_; (focus (simp [g1', e0]; done)); intro K9 h9) | ((first | refine DU.arunD_gF rfl ?_ ?_ | refine DU.arunD_gT rfl ?_ ?_); (focus (simp [g1', e0]; done)); intro K9 h9)); simp (disch := (first | (simp; done) | omega | (simp; omega))) [g1', e0]; (try simp (disch := (first | omega | (simp; omega))) only [X7]); ((first | refine acall_pure (c1) (by simp) ?_ | refine acall_pure (c2) (by simp) ?_ | refine acall_pure (c3) (by simp) ?_ | skip) <;> ((repeat (refine Yz ?_)); (first | refine h9 _ _ (Yp ?_) | refine h9 _ _ (DU.Yt ?_)); clear h9 K9))) | refine Yo ?_ | (refine DU.arunD_end ?_) | (refine Y8 fun K hK => ?_) | refine Yq ?_ | (apply hK; clear hK K) | ((first | refine DU.awp_region_draw' (m := 0) (by decide +kernel) [] (by kernel_rfl) (by decide +kernel) ?_); dsimp only [List.replicate, List.append_nil, List.cons_append, List.nil_append, List.length_cons, List.length_nil]) | refine Ya ?_ | (refine Yb rfl (fun hcnd => ?_) (fun hcnd => ?_) <;> (try simp at hcnd) <;> (try contradiction) <;> (try (exfalso; omega))) | refine Yc ?_ | (refine Yd ?_; simp only [X0, Nat.reduceBEq]) | (refine Ye ?_; refine Yf ?_) | (refine Yn ?_ ?_; (focus (simp [g1', e0]; done)); refine Yp ?_) | ((first | refine DU.arunD_nF rfl ?_ ?_ | refine DU.arunD_nT rfl ?_ ?_); (focus (simp [g1', e0]; done)); refine DU.Yt ?_) | refine Yg ?_ | (simp only [X0, Nat.reduceBEq]) | clear hK K)
      refine awp_loopU (α := Nat) (fun i => (zN 4 (some V.junk :: zN 2 (some (V.int .i64 i) :: zS 69 [])))) (fun i => []) (fun i => i ≤ h ∧ ∀ j, j < i → rAt a r h true j = true) (fun i => h - i) 0 ⟨by omega, fun j h => by omega⟩ ?_ ?_
      · dsimp only [ups, zN, zS]
        exact Yr [] (by simp [rowsOver])
      rintro i ⟨hi, hall⟩ KL hL
      dsimp only [ups, zN, zS]
      rcases Nat.lt_or_ge i h with hi | hi
      · have hia : i < a.length := by omega
        have hir : i < r.length := by omega
        have him : h + i < r.length := by omega
        have e1 : ((h : Int) + i).toNat = h + i := by omega
        have hi3 : (i : Int) < h := by omega
        have hstep : rAt a r h true i = true → i + 1 ≤ h ∧ ∀ j, j < i + 1 → rAt a r h true j = true := fun hx => ⟨by omega, fun j h => by
          rcases Nat.lt_or_ge j i with h3 | h3
          · exact hall j h3
          · obtain rfl : j = i := by omega
            exact hx⟩
        have hno : rAt a r h true i = false → R = false := fun hx => by rw [hR]; exact rangeAll_no hi hx
        have hat : rAt a r h true i = ((a[i] &&& r[h + i]) == r[i]) := by unfold rAt; rw [getD_at hia, getD_at hir, getD_at him]; simp
        obtain ⟨c, hc⟩ : ∃ c, a[i] = c := ⟨_, rfl⟩
        obtain ⟨d, hd⟩ : ∃ c, r[h + i] = c := ⟨_, rfl⟩
        obtain ⟨e, he⟩ : ∃ c, r[i] = c := ⟨_, rfl⟩
        rw [hc, hd, he] at hat
        have hand := and_u8 c d
        generalize c &&& d = q at *
        by_cases hq : q = e
        rotate_left 1
        · have hq' : ¬ (q.toNat : Int) = e.toNat := u8_ne hq
          have hR0 := hno (by rw [hat]; simp [hq])
          repeat' (first | ((first | refine Yl rfl fun K9 h9 => ?_ | refine DU.arunD_goF rfl rfl fun K9 h9 => ?_ | refine DU.arunD_goT rfl rfl fun K9 h9 => ?_ | (refine Ym ?_ ?_; (focus (simp [hi3, e1, hc, hd, he, hand, hq']; done)); intro K9 h9) | ((first | refine DU.arunD_gF rfl ?_ ?_ | refine DU.arunD_gT rfl ?_ ?_); (focus (simp [hi3, e1, hc, hd, he, hand, hq']; done)); intro K9 h9)); simp (disch := (first | (simp; done) | omega | (simp; omega))) [hi3, e1, hc, hd, he, hand, hq']; (try simp (disch := (first | omega | (simp; omega))) only [X7]); ((repeat (refine Yz ?_)); (first | refine h9 _ _ (Yp ?_) | refine h9 _ _ (DU.Yt ?_)); clear h9 K9)) | refine Yo ?_ | (refine DU.arunD_end ?_) | (refine Y8 fun K hK => ?_) | refine Yq ?_ | (apply hK; clear hK K) | ((first | refine DU.awp_region_draw' (m := 0) (by decide +kernel) [] (by kernel_rfl) (by decide +kernel) ?_); dsimp only [List.replicate, List.append_nil, List.cons_append, List.nil_append, List.length_cons, List.length_nil]) | refine Ya ?_ | (refine Yb rfl (fun hcnd => ?_) (fun hcnd => ?_) <;> (try simp at hcnd) <;> (try contradiction) <;> (try (exfalso; omega))) | refine Yc ?_ | (refine Yd ?_; simp only [X0, Nat.reduceBEq]) | (refine Ye ?_; refine Yf ?_) | (refine Yn ?_ ?_; (focus (simp [hi3, e1, hc, hd, he, hand, hq']; done)); refine Yp ?_) | ((first | refine DU.arunD_nF rfl ?_ ?_ | refine DU.arunD_nT rfl ?_ ?_); (focus (simp [hi3, e1, hc, hd, he, hand, hq']; done)); refine DU.Yt ?_) | refine Yg ?_ | (simp only [X0, Nat.reduceBEq]) | clear hK K)
          rw [hR0]
          exact .pure .bool
        have hq' : (q.toNat : Int) = e.toNat := by rw [hq]
        repeat' (first | ((first | refine Yl rfl fun K9 h9 => ?_ | refine DU.arunD_goF rfl rfl fun K9 h9 => ?_ | refine DU.arunD_goT rfl rfl fun K9 h9 => ?_ | (refine Ym ?_ ?_; (focus (simp [hi3, e1, hc, hd, he, hand, hq']; done)); intro K9 h9) | ((first | refine DU.arunD_gF rfl ?_ ?_ | refine DU.arunD_gT rfl ?_ ?_); (focus (simp [hi3, e1, hc, hd, he, hand, hq']; done)); intro K9 h9)); simp (disch := (first | (simp; done) | omega | (simp; omega))) [hi3, e1, hc, hd, he, hand, hq']; (try simp (disch := (first | omega | (simp; omega))) only [X7]); ((repeat (refine Yz ?_)); (first | refine h9 _ _ (Yp ?_) | refine h9 _ _ (DU.Yt ?_)); clear h9 K9)) | refine Yo ?_ | (refine DU.arunD_end ?_) | (refine Y8 fun K hK => ?_) | refine Yq ?_ | (apply hK; clear hK K) | ((first | refine DU.awp_region_draw' (m := 0) (by decide +kernel) [] (by kernel_rfl) (by decide +kernel) ?_); dsimp only [List.replicate, List.append_nil, List.cons_append, List.nil_append, List.length_cons, List.length_nil]) | refine Ya ?_ | (refine Yb rfl (fun hcnd => ?_) (fun hcnd => ?_) <;> (try simp at hcnd) <;> (try contradiction) <;> (try (exfalso; omega))) | refine Yc ?_ | (refine Yd ?_; simp only [X0, Nat.reduceBEq]) | (refine Ye ?_; refine Yf ?_) | (refine Yn ?_ ?_; (focus (simp [hi3, e1, hc, hd, he, hand, hq']; done)); refine Yp ?_) | ((first | refine DU.arunD_nF rfl ?_ ?_ | refine DU.arunD_nT rfl ?_ ?_); (focus (simp [hi3, e1, hc, hd, he, hand, hq']; done)); refine DU.Yt ?_) | refine Yg ?_ | (simp only [X0, Nat.reduceBEq]) | clear hK K)
        refine hL (i + 1) _ _ (hstep (by rw [hat, hq]; simp)) (by omega) ?_
        exact Yr [] (by simp [rowsOver])
      · have hi3 : ¬ (i : Int) < h := by omega
        have hR1 : R = true := by rw [hR]; exact rangeAll_yes fun j hj => hall j (by omega)
        repeat' (first | ((first | refine Yl rfl fun K9 h9 => ?_ | refine DU.arunD_goF rfl rfl fun K9 h9 => ?_ | refine DU.arunD_goT rfl rfl fun K9 h9 => ?_ | (refine Ym ?_ ?_; (focus (simp [hi3]; done)); intro K9 h9) | ((first | refine DU.arunD_gF rfl ?_ ?_ | refine DU.arunD_gT rfl ?_ ?_); (focus (simp [hi3]; done)); intro K9 h9)); simp (disch := (first | (simp; done) | omega | (simp; omega))) [hi3]; (try simp (disch := (first | omega | (simp; omega))) only [X7]); ((repeat (refine Yz ?_)); (first | refine h9 _ _ (Yp ?_) | refine h9 _ _ (DU.Yt ?_)); clear h9 K9)) | refine Yo ?_ | (refine DU.arunD_end ?_) | (refine Y8 fun K hK => ?_) | refine Yq ?_ | (apply hK; clear hK K) | ((first | refine DU.awp_region_draw' (m := 0) (by decide +kernel) [] (by kernel_rfl) (by decide +kernel) ?_); dsimp only [List.replicate, List.append_nil, List.cons_append, List.nil_append, List.length_cons, List.length_nil]) | refine Ya ?_ | (refine Yb rfl (fun hcnd => ?_) (fun hcnd => ?_) <;> (try simp at hcnd) <;> (try contradiction) <;> (try (exfalso; omega))) | refine Yc ?_ | (refine Yd ?_; simp only [X0, Nat.reduceBEq]) | (refine Ye ?_; refine Yf ?_) | (refine Yn ?_ ?_; (focus (simp [hi3]; done)); refine Yp ?_) | ((first | refine DU.arunD_nF rfl ?_ ?_ | refine DU.arunD_nT rfl ?_ ?_); (focus (simp [hi3]; done)); refine DU.Yt ?_) | refine Yg ?_ | (simp only [X0, Nat.reduceBEq]) | clear hK K)
        rw [hR1]
        exact .pure .bool
    · have g1' : ¬ (a.length : Int) = h := by omega
      obtain rfl : w = false := by rw [← hw]; simp [wholeB, g1]
      have hR0 : R = false := by rw [hdef]; simp
      repeat' (first | ((first | refine Yl rfl fun K9 h9 => ?_ | refine DU.arunD_goF rfl rfl fun K9 h9 => ?_ | refine DU.arunD_goT rfl rfl fun K9 h9 => ?_ | (refine Ym ?_ ?_; (focus (simp [g1', e0]; done)); intro K9 h9) | ((first | refine DU.arunD_gF rfl ?_ ?_ | refine DU.arunD_gT rfl ?_ ?_); (focus (simp [g1', e0]; done)); intro K9 h9)); simp (disch := (first | (simp; done) | omega | (simp; omega))) [g1', e0]; (try simp (disch := (first | omega | (simp; omega))) only [X7]); ((first | refine acall_pure (c1) (by simp) ?_ | refine acall_pure (c2) (by simp) ?_ | refine acall_pure (c3) (by simp) ?_ | skip) <;> ((repeat (refine Yz ?_)); (first | refine h9 _ _ (Yp ?_) | refine h9 _ _ (DU.Yt ?_)); clear h9 K9))) | refine Yo ?_ | (refine DU.arunD_end ?_) | (refine Y8 fun K hK => ?_) | refine Yq ?_ | (apply hK; clear hK K) | ((first | refine DU.awp_region_draw' (m := 0) (by decide +kernel) [] (by kernel_rfl) (by decide +kernel) ?_); dsimp only [List.replicate, List.append_nil, List.cons_append, List.nil_append, List.length_cons, List.length_nil]) | refine Ya ?_ | (refine Yb rfl (fun hcnd => ?_) (fun hcnd => ?_) <;> (try simp at hcnd) <;> (try contradiction) <;> (try (exfalso; omega))) | refine Yc ?_ | (refine Yd ?_; simp only [X0, Nat.reduceBEq]) | (refine Ye ?_; refine Yf ?_) | (refine Yn ?_ ?_; (focus (simp [g1', e0]; done)); refine Yp ?_) | ((first | refine DU.arunD_nF rfl ?_ ?_ | refine DU.arunD_nT rfl ?_ ?_); (focus (simp [g1', e0]; done)); refine DU.Yt ?_) | refine Yg ?_ | (simp only [X0, Nat.reduceBEq]) | clear hK K)
      rw [hR0]
      exact .pure .bool
  obtain rfl : w = false := by rw [← hw]; simp [wholeB, A]
  cases B : rngB a <;> rw [B] at c2 hdef
  · have hR0 : R = false := by rw [hdef]; simp
    repeat' (first | ((first | refine Yl rfl fun K9 h9 => ?_ | refine DU.arunD_goF rfl rfl fun K9 h9 => ?_ | refine DU.arunD_goT rfl rfl fun K9 h9 => ?_ | (refine Ym ?_ ?_; (focus (simp [e0]; done)); intro K9 h9) | ((first | refine DU.arunD_gF rfl ?_ ?_ | refine DU.arunD_gT rfl ?_ ?_); (focus (simp [e0]; done)); intro K9 h9)); simp (disch := (first | (simp; done) | omega | (simp; omega))) [e0]; (try simp (disch := (first | omega | (simp; omega))) only [X7]); ((first | refine acall_pure (c1) (by simp) ?_ | refine acall_pure (c2) (by simp) ?_ | refine acall_pure (c3) (by simp) ?_ | skip) <;> ((repeat (refine Yz ?_)); (first | refine h9 _ _ (Yp ?_) | refine h9 _ _ (DU.Yt ?_)); clear h9 K9))) | refine Yo ?_ | (refine DU.arunD_end ?_) | (refine Y8 fun K hK => ?_) | refine Yq ?_ | (apply hK; clear hK K) | ((first | refine DU.awp_region_draw' (m := 0) (by decide +kernel) [] (by kernel_rfl) (by decide +kernel) ?_); dsimp only [List.replicate, List.append_nil, List.cons_append, List.nil_append, List.length_cons, List.length_nil]) | refine Ya ?_ | (refine Yb rfl (fun hcnd => ?_) (fun hcnd => ?_) <;> (try simp at hcnd) <;> (try contradiction) <;> (try (exfalso; omega))) | refine Yc ?_ | (refine Yd ?_; simp only [X0, Nat.reduceBEq]) | (refine Ye ?_; refine Yf ?_) | (refine Yn ?_ ?_; (focus (simp [e0]; done)); refine Yp ?_) | ((first | refine DU.arunD_nF rfl ?_ ?_ | refine DU.arunD_nT rfl ?_ ?_); (focus (simp [e0]; done)); refine DU.Yt ?_) | refine Yg ?_ | (simp only [X0, Nat.reduceBEq]) | clear hK K)
    rw [hR0]
    exact .pure .bool
  by_cases g2 : a.length = r.length
  · have g2' : (a.length : Int) = r.length := by omega
    have hR : R = (List.range h).all (rAt a r h false) := main (by rw [B, g2]; simp)
    repeat' (first | ((first | refine Yl rfl fun K9 h9 => ?_ | refine DU.arunD_goF rfl rfl fun K9 h9 => ?_ | refine DU.arunD_goT rfl rfl fun K9 h9 => ?_ | (refine Ym ?_ ?_; (focus (simp [g2', e0]; done)); intro K9 h9) | ((first | refine DU.arunD_gF rfl ?_ ?_ | refine DU.arunD_gT rfl ?_ ?_); (focus (simp [g2', e0]; done)); intro K9 h9)); simp (disch := (first | (simp; done) | omega | (simp; omega))) [g2', e0]; (try simp (disch := (first | omega | (simp; omega))) only [X7]); ((first | refine acall_pure (c1) (by simp) ?_ | refine acall_pure (c2) (by simp) ?_ | refine acall_pure (c3) (by simp) ?_ | skip) <;> ((repeat (refine Yz ?_)); (first | refine h9 _ _ (Yp ?_) | refine h9 _ _ (DU.Yt ?_)); clear h9 K9))) | refine Yo ?_ | (refine DU.arunD_end ?_) | (refine Y8 fun K hK => ?_) | refine Yq ?_ | (apply hK; clear hK K) | ((first | refine DU.awp_region_draw' (m := 0) (by decide +kernel) [] (by kernel_rfl) (by decide +kernel) ?_); dsimp only [List.replicate, List.append_nil, List.cons_append, List.nil_append, List.length_cons, List.length_nil]) | refine Ya ?_ | (refine Yb rfl (fun hcnd => ?_) (fun hcnd => ?_) <;> (try simp at hcnd) <;> (try contradiction) <;> (try (exfalso; omega))) | refine Yc ?_ | (refine Yd ?_; simp only [X0, Nat.reduceBEq]) | (refine Ye ?_; refine Yf ?_) | (refine Yn ?_ ?_; (focus (simp [g2', e0]; done)); refine Yp ?_) | ((first | refine DU.arunD_nF rfl ?_ ?_ | refine DU.arunD_nT rfl ?_ ?_); (focus (simp [g2', e0]; done)); refine DU.Yt ?_) | refine Yg ?_ | (simp only [X0, Nat.reduceBEq]) | clear hK K)
    refine awp_loopU (α := Nat) (fun i => (zN 4 (some V.junk :: zN 2 (some (V.int .i64 i) :: zS 69 [])))) (fun i => []) (fun i => i ≤ h ∧ ∀ j, j < i → rAt a r h false j = true) (fun i => h - i) 0 ⟨by omega, fun j h => by omega⟩ ?_ ?_
    · dsimp only [ups, zN, zS]
      exact Yr [] (by simp [rowsOver])
    rintro i ⟨hi, hall⟩ KL hL
    dsimp only [ups, zN, zS]
    rcases Nat.lt_or_ge i h with hi | hi
    · have hia : i < a.length := by omega
      have hir : i < r.length := by omega
      have him : h + i < r.length := by omega
      have e1 : ((h : Int) + i).toNat = h + i := by omega
      have hi3 : (i : Int) < h := by omega
      have hstep : rAt a r h false i = true → i + 1 ≤ h ∧ ∀ j, j < i + 1 → rAt a r h false j = true := fun hx => ⟨by omega, fun j h => by
        rcases Nat.lt_or_ge j i with h3 | h3
        · exact hall j h3
        · obtain rfl : j = i := by omega
          exact hx⟩
      have hno : rAt a r h false i = false → R = false := fun hx => by rw [hR]; exact rangeAll_no hi hx
      have hio : h + i < a.length := by omega
      have hat : rAt a r h false i = (((a[i] &&& r[h + i]) == r[i]) && ((a[h + i] &&& r[h + i]) == r[h + i])) := by unfold rAt; rw [getD_at hia, getD_at hir, getD_at him, getD_at hio]; simp
      obtain ⟨c, hc⟩ : ∃ c, a[i] = c := ⟨_, rfl⟩
      obtain ⟨d, hd⟩ : ∃ c, r[h + i] = c := ⟨_, rfl⟩
      obtain ⟨e, he⟩ : ∃ c, r[i] = c := ⟨_, rfl⟩
      obtain ⟨f, hf⟩ : ∃ c, a[h + i] = c := ⟨_, rfl⟩
      rw [hc, hd, he, hf] at hat
      have hand2 := and_u8 f d
      generalize f &&& d = q2 at *
      have hand := and_u8 c d
      generalize c &&& d = q at *
      by_cases hq : q = e
      rotate_left 1
      · have hq' : ¬ (q.toNat : Int) = e.toNat := u8_ne hq
        have hR0 := hno (by rw [hat]; simp [hq])
        repeat' (first | ((first | refine Yl rfl fun K9 h9 => ?_ | refine DU.arunD_goF rfl rfl fun K9 h9 => ?_ | refine DU.arunD_goT rfl rfl fun K9 h9 => ?_ | (refine Ym ?_ ?_; (focus (simp [hi3, e1, hc, hd, he, hand, hq']; done)); intro K9 h9) | ((first | refine DU.arunD_gF rfl ?_ ?_ | refine DU.arunD_gT rfl ?_ ?_); (focus (simp [hi3, e1, hc, hd, he, hand, hq']; done)); intro K9 h9)); simp (disch := (first | (simp; done) | omega | (simp; omega))) [hi3, e1, hc, hd, he, hand, hq']; (try simp (disch := (first | omega | (simp; omega))) only [X7]); ((repeat (refine Yz ?_)); (first | refine h9 _ _ (Yp ?_) | refine h9 _ _ (DU.Yt ?_)); clear h9 K9)) | refine Yo ?_ | (refine DU.arunD_end ?_) | (refine Y8 fun K hK => ?_) | refine Yq ?_ | (apply hK; clear hK K) | ((first | refine DU.awp_region_draw' (m := 0) (by decide +kernel) [] (by kernel_rfl) (by decide +kernel) ?_); dsimp only [List.replicate, List.append_nil, List.cons_append, List.nil_append, List.length_cons, List.length_nil]) | refine Ya ?_ | (refine Yb rfl (fun hcnd => ?_) (fun hcnd => ?_) <;> (try simp at hcnd) <;> (try contradiction) <;> (try (exfalso; omega))) | refine Yc ?_ | (refine Yd ?_; simp only [X0, Nat.reduceBEq]) | (refine Ye ?_; refine Yf ?_) | (refine Yn ?_ ?_; (focus (simp [hi3, e1, hc, hd, he, hand, hq']; done)); refine Yp ?_) | ((first | refine DU.arunD_nF rfl ?_ ?_ | refine DU.arunD_nT rfl ?_ ?_); (focus (simp [hi3, e1, hc, hd, he, hand, hq']; done)); refine DU.Yt ?_) | refine Yg ?_ | (simp only [X0, Nat.reduceBEq]) | clear hK K)
        rw [hR0]
        exact .pure .bool
      have hq' : (q.toNat : Int) = e.toNat := by rw [hq]
      by_cases hq2 : q2 = d
      · have hq2' : (q2.toNat : Int) = d.toNat := by rw [hq2]
        repeat' (first | ((first | refine Yl rfl fun K9 h9 => ?_ | refine DU.arunD_goF rfl rfl fun K9 h9 => ?_ | refine DU.arunD_goT rfl rfl fun K9 h9 => ?_ | (refine Ym ?_ ?_; (focus (simp [hi3, e1, hc, hd, he, hf, hand, hand2, hq', hq2']; done)); intro K9 h9) | ((first | refine DU.arunD_gF rfl ?_ ?_ | refine DU.arunD_gT rfl ?_ ?_); (focus (simp [hi3, e1, hc, hd, he, hf, hand, hand2, hq', hq2']; done)); intro K9 h9)); simp (disch := (first | (simp; done) | omega | (simp; omega))) [hi3, e1, hc, hd, he, hf, hand, hand2, hq', hq2']; (try simp (disch := (first | omega | (simp; omega))) only [X7]); ((repeat (refine Yz ?_)); (first | refine h9 _ _ (Yp ?_) | refine h9 _ _ (DU.Yt ?_)); clear h9 K9)) | refine Yo ?_ | (refine DU.arunD_end ?_) | (refine Y8 fun K hK => ?_) | refine Yq ?_ | (apply hK; clear hK K) | ((first | refine DU.awp_region_draw' (m := 0) (by decide +kernel) [] (by kernel_rfl) (by decide +kernel) ?_); dsimp only [List.replicate, List.append_nil, List.cons_append, List.nil_append, List.length_cons, List.length_nil]) | refine Ya ?_ | (refine Yb rfl (fun hcnd => ?_) (fun hcnd => ?_) <;> (try simp at hcnd) <;> (try contradiction) <;> (try (exfalso; omega))) | refine Yc ?_ | (refine Yd ?_; simp only [X0, Nat.reduceBEq]) | (refine Ye ?_; refine Yf ?_) | (refine Yn ?_ ?_; (focus (simp [hi3, e1, hc, hd, he, hf, hand, hand2, hq', hq2']; done)); refine Yp ?_) | ((first | refine DU.arunD_nF rfl ?_ ?_ | refine DU.arunD_nT rfl ?_ ?_); (focus (simp [hi3, e1, hc, hd, he, hf, hand, hand2, hq', hq2']; done)); refine DU.Yt ?_) | refine Yg ?_ | (simp only [X0, Nat.reduceBEq]) | clear hK K)
        refine hL (i + 1) _ _ (hstep (by rw [hat, hq, hq2]; simp)) (by omega) ?_
        exact Yr [] (by simp [rowsOver])
      · have hq2' : ¬ (q2.toNat : Int) = d.toNat := u8_ne hq2
        have hR0 := hno (by rw [hat]; simp [hq2])
        repeat' (first | ((first | refine Yl rfl fun K9 h9 => ?_ | refine DU.arunD_goF rfl rfl fun K9 h9 => ?_ | refine DU.arunD_goT rfl rfl fun K9 h9 => ?_ | (refine Ym ?_ ?_; (focus (simp [hi3, e1, hc, hd, he, hf, hand, hand2, hq', hq2']; done)); intro K9 h9) | ((first | refine DU.arunD_gF rfl ?_ ?_ | refine DU.arunD_gT rfl ?_ ?_); (focus (simp [hi3, e1, hc, hd, he, hf, hand, hand2, hq', hq2']; done)); intro K9 h9)); simp (disch := (first | (simp; done) | omega | (simp; omega))) [hi3, e1, hc, hd, he, hf, hand, hand2, hq', hq2']; (try simp (disch := (first | omega | (simp; omega))) only [X7]); ((repeat (refine Yz ?_)); (first | refine h9 _ _ (Yp ?_) | refine h9 _ _ (DU.Yt ?_)); clear h9 K9)) | refine Yo ?_ | (refine DU.arunD_end ?_) | (refine Y8 fun K hK => ?_) | refine Yq ?_ | (apply hK; clear hK K) | ((first | refine DU.awp_region_draw' (m := 0) (by decide +kernel) [] (by kernel_rfl) (by decide +kernel) ?_); dsimp only [List.replicate, List.append_nil, List.cons_append, List.nil_append, List.length_cons, List.length_nil]) | refine Ya ?_ | (refine Yb rfl (fun hcnd => ?_) (fun hcnd => ?_) <;> (try simp at hcnd) <;> (try contradiction) <;> (try (exfalso; omega))) | refine Yc ?_ | (refine Yd ?_; simp only [X0, Nat.reduceBEq]) | (refine Ye ?_; refine Yf ?_) | (refine Yn ?_ ?_; (focus (simp [hi3, e1, hc, hd, he, hf, hand, hand2, hq', hq2']; done)); refine Yp ?_) | ((first | refine DU.arunD_nF rfl ?_ ?_ | refine DU.arunD_nT rfl ?_ ?_); (focus (simp [hi3, e1, hc, hd, he, hf, hand, hand2, hq', hq2']; done)); refine DU.Yt ?_) | refine Yg ?_ | (simp only [X0, Nat.reduceBEq]) | clear hK K)
        rw [hR0]
        exact .pure .bool
    · have hi3 : ¬ (i : Int) < h := by omega
      have hR1 : R = true := by rw [hR]; exact rangeAll_yes fun j hj => hall j (by omega)
      repeat' (first | ((first | refine Yl rfl fun K9 h9 => ?_ | refine DU.arunD_goF rfl rfl fun K9 h9 => ?_ | refine DU.arunD_goT rfl rfl fun K9 h9 => ?_ | (refine Ym ?_ ?_; (focus (simp [hi3]; done)); intro K9 h9) | ((first | refine DU.arunD_gF rfl ?_ ?_ | refine DU.arunD_gT rfl ?_ ?_); (focus (simp [hi3]; done)); intro K9 h9)); simp (disch := (first | (simp; done) | omega | (simp; omega))) [hi3]; (try simp (disch := (first | omega | (simp; omega))) only [X7]); ((repeat (refine Yz ?_)); (first | refine h9 _ _ (Yp ?_) | refine h9 _ _ (DU.Yt ?_)); clear h9 K9)) | refine Yo ?_ | (refine DU.arunD_end ?_) | (refine Y8 fun K hK => ?_) | refine Yq ?_ | (apply hK; clear hK K) | ((first | refine DU.awp_region_draw' (m := 0) (by decide +kernel) [] (by kernel_rfl) (by decide +kernel) ?_); dsimp only [List.replicate, List.append_nil, List.cons_append, List.nil_append, List.length_cons, List.length_nil]) | refine Ya ?_ | (refine Yb rfl (fun hcnd => ?_) (fun hcnd => ?_) <;> (try simp at hcnd) <;> (try contradiction) <;> (try (exfalso; omega))) | refine Yc ?_ | (refine Yd ?_; simp only [X0, Nat.reduceBEq]) | (refine Ye ?_; refine Yf ?_) | (refine Yn ?_ ?_; (focus (simp [hi3]; done)); refine Yp ?_) | ((first | refine DU.arunD_nF rfl ?_ ?_ | refine DU.arunD_nT rfl ?_ ?_); (focus (simp [hi3]; done)); refine DU.Yt ?_) | refine Yg ?_ | (simp only [X0, Nat.reduceBEq]) | clear hK K)
      rw [hR1]
      exact .pure .bool
  · have g2' : ¬ (a.length : Int) = r.length := by omega
    have hR0 : R = false := by rw [hdef]; simp [g2]
    repeat' (first | ((first | refine Yl rfl fun K9 h9 => ?_ | refine DU.arunD_goF rfl rfl fun K9 h9 => ?_ | refine DU.arunD_goT rfl rfl fun K9 h9 => ?_ | (refine Ym ?_ ?_; (focus (simp [g2', e0]; done)); intro K9 h9) | ((first | refine DU.arunD_gF rfl ?_ ?_ | refine DU.arunD_gT rfl ?_ ?_); (focus (simp [g2', e0]; done)); intro K9 h9)); simp (disch := (first | (simp; done) | omega | (simp; omega))) [g2', e0]; (try simp (disch := (first | omega | (simp; omega))) only [X7]); ((first | refine acall_pure (c1) (by simp) ?_ | refine acall_pure (c2) (by simp) ?_ | refine acall_pure (c3) (by simp) ?_ | skip) <;> ((repeat (refine Yz ?_)); (first | refine h9 _ _ (Yp ?_) | refine h9 _ _ (DU.Yt ?_)); clear h9 K9))) | refine Yo ?_ | (refine DU.arunD_end ?_) | (refine Y8 fun K hK => ?_) | refine Yq ?_ | (apply hK; clear hK K) | ((first | refine DU.awp_region_draw' (m := 0) (by decide +kernel) [] (by kernel_rfl) (by decide +kernel) ?_); dsimp only [List.replicate, List.append_nil, List.cons_append, List.nil_append, List.length_cons, List.length_nil]) | refine Ya ?_ | (refine Yb rfl (fun hcnd => ?_) (fun hcnd => ?_) <;> (try simp at hcnd) <;> (try contradiction) <;> (try (exfalso; omega))) | refine Yc ?_ | (refine Yd ?_; simp only [X0, Nat.reduceBEq]) | (refine Ye ?_; refine Yf ?_) | (refine Yn ?_ ?_; (focus (simp [g2', e0]; done)); refine Yp ?_) | ((first | refine DU.arunD_nF rfl ?_ ?_ | refine DU.arunD_nT rfl ?_ ?_); (focus (simp [g2', e0]; done)); refine DU.Yt ?_) | refine Yg ?_ | (simp only [X0, Nat.reduceBEq]) | clear hK K)
    rw [hR0]
    exact .pure .bool
  · exact .bool
end Go.Proofs.YtcfmanhblonjeaaGreat.Ho
