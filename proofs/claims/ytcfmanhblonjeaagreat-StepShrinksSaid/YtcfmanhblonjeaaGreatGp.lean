/-
  HOST: texts cut at a byte, in plain Lean; the kit's words for them.
  HOST: bytes and small letters.
  HOST: small letters, comparisons that ignore case.
  HOST: labels and DNS names.
  HOST: DNS names; Split.
  HOST: DNS names by the definition.
  HOST: patterns, bases, what matches and what lies within.
  HOST: DNSWithin by the definition.
  Conditions: none.
-/
import Derived.Lib.SplitLaws
import Derived.Lib.Strings
import Derived.Test.YtcfmanhblonjeaaGreatTab
import Derived.Test.YtcfmanhblonjeaaGreatGd
import Derived.Test.YtcfmanhblonjeaaGreatGi
import Derived.Test.YtcfmanhblonjeaaGreatVs30
namespace Go.Hst

abbrev Bs := List UInt8
def lowB (c : UInt8) : UInt8 := if 65 ≤ c.toNat ∧ c.toNat ≤ 90 then UInt8.ofNat (c.toNat + 32) else c
def low (s : Bs) : Bs := s.map lowB
def okB (c : UInt8) : Bool := (97 ≤ c.toNat && c.toNat ≤ 122) || (65 ≤ c.toNat && c.toNat ≤ 90) || (48 ≤ c.toNat && c.toNat ≤ 57)

/-- A text, cut at each byte c. -/
def splitC (c : UInt8) : Bs → List Bs
  | [] => [[]]
  | b :: l => if b = c then [] :: splitC c l else match splitC c l with
    | [] => [[b]]
    | x :: xs => (b :: x) :: xs
def befC (c : UInt8) (s : Bs) : Bs := s.takeWhile (· != c)
def aftC (c : UInt8) (s : Bs) : Bs := (s.dropWhile (· != c)).drop 1

theorem splitC_ne (c : UInt8) : ∀ s, splitC c s ≠ []
  | [] => by simp [splitC]
  | b :: l => by
    unfold splitC
    split
    · simp
    · split <;> simp

theorem splitC_not (c : UInt8) : ∀ s : Bs, c ∉ s → splitC c s = [s]
  | [], _ => rfl
  | b :: l, h => by
    simp only [List.mem_cons, not_or] at h
    unfold splitC
    rw [if_neg (fun e => h.1 e.symm), splitC_not c l h.2]

theorem splitC_hit (c : UInt8) : ∀ a b : Bs, c ∉ a → splitC c (a ++ c :: b) = a :: splitC c b
  | [], b, _ => by simp [splitC]
  | x :: a, b, h => by
    simp only [List.mem_cons, not_or] at h
    rw [List.cons_append, splitC, if_neg (fun e => h.1 e.symm), splitC_hit c a b h.2]

theorem splitC_len (c : UInt8) : ∀ s : Bs, (splitC c s).length = s.count c + 1
  | [] => rfl
  | b :: l => by
    have ih := splitC_len c l
    unfold splitC
    split
    · rename_i h; subst h; simp [ih]
    · rename_i h
      rw [List.count_cons_of_ne h]
      split
      · rename_i h2; exact absurd h2 (splitC_ne c l)
      · rename_i x xs h2; rw [h2] at ih; simpa using ih

theorem splitC_mem (c : UInt8) : ∀ (s : Bs) (x : UInt8), x ∈ s → x = c ∨ ∃ p ∈ splitC c s, x ∈ p
  | [], x, h => by simp at h
  | b :: l, x, h => by
    unfold splitC
    split
    · rename_i hb
      rcases List.mem_cons.1 h with rfl | h
      · exact .inl hb
      · rcases splitC_mem c l x h with h | ⟨p, h1, h2⟩
        · exact .inl h
        · exact .inr ⟨p, by simp [h1], h2⟩
    · split
      · rename_i h2; exact absurd h2 (splitC_ne c l)
      · rename_i y ys h2
        rcases List.mem_cons.1 h with rfl | h
        · exact .inr ⟨x :: y, by simp, by simp⟩
        · rcases splitC_mem c l x h with h | ⟨p, h1, h3⟩
          · exact .inl h
          · rw [h2] at h1
            rcases List.mem_cons.1 h1 with rfl | h1
            · exact .inr ⟨b :: p, by simp, by simp [h3]⟩
            · exact .inr ⟨p, by simp [h1], h3⟩

theorem splitC_piece (c : UInt8) : ∀ (s : Bs), ∀ p ∈ splitC c s, c ∉ p ∧ p.length ≤ s.length
  | [], p, h => by simp [splitC] at h; subst h; simp
  | b :: l, p, h => by
    unfold splitC at h
    split at h
    · rcases List.mem_cons.1 h with rfl | h
      · simp
      · have := splitC_piece c l p h; simp; exact ⟨this.1, by omega⟩
    · rename_i hb
      split at h
      · rename_i h2; exact absurd h2 (splitC_ne c l)
      · rename_i y ys h2
        rcases List.mem_cons.1 h with rfl | h
        · have := splitC_piece c l y (by rw [h2]; simp)
          simp only [List.mem_cons, not_or, List.length_cons]
          exact ⟨⟨fun e => hb e.symm, this.1⟩, by omega⟩
        · have := splitC_piece c l p (by rw [h2]; simp [h])
          simp; exact ⟨this.1, by omega⟩

/-! ### The kit's words -/

theorem bef_aft (c : UInt8) : ∀ s : Bs, c ∈ s → s = befC c s ++ c :: aftC c s
  | [], h => by simp at h
  | b :: l, h => by
    by_cases hb : b = c
    · subst hb; simp [befC, aftC]
    · have h2 : (b != c) = true := by simpa using hb
      have := bef_aft c l (by rcases List.mem_cons.1 h with h | h; exact absurd h.symm hb; exact h)
      simp only [befC, aftC, List.takeWhile_cons, List.dropWhile_cons, h2, if_true, List.cons_append] at this ⊢
      rw [← this]
theorem bef_not (c : UInt8) : ∀ s : Bs, c ∉ befC c s
  | [] => by simp [befC]
  | b :: l => by
    have ih := bef_not c l
    unfold befC at ih ⊢
    rw [List.takeWhile_cons]
    by_cases hb : b = c
    · subst hb; simp
    · rw [if_pos (by simpa using hb)]
      simp only [List.mem_cons, not_or]
      exact ⟨fun e => hb e.symm, ih⟩
theorem aft_len (c : UInt8) (s : Bs) : (aftC c s).length ≤ s.length := by
  unfold aftC
  rw [List.length_drop]
  have := (List.dropWhile_suffix (l := s) (· != c)).length_le
  omega

theorem take_app {s a b : Bs} {c : UInt8} (h : s = a ++ c :: b) : s.take a.length = a := by rw [h]; simp
theorem drop_app {s a b : Bs} {c : UInt8} (h : s = a ++ c :: b) : s.drop (a.length + 1) = b := by rw [h, List.drop_append]; simp
end Go.Hst
namespace Go.Proofs.YtcfmanhblonjeaaGreat.Ho
open Go.VS Go.Hst
set_option linter.all false
set_option maxRecDepth 100000
attribute [local irreducible] arun arunD arunU AWp aend
theorem bytes_full {l : List UInt8} {n : Nat} (h : l.length ≤ n) : List.take n (l.map byteV) = l.map byteV := List.take_of_length_le (by simpa using h)
theorem wrap_u8' (n : Int) : IntKind.u8.wrap n = n % 256 := by simp [IntKind.wrap, IntKind.signed, IntKind.bits]

theorem alnum_call (c : UInt8) : PCall Tryz.prog 95 [byteV c] (.bool (okB c)) := by
  refine pcall_body Tryz.func95 rfl Tryz.call95 ?_ ?_
  rotate_left 1
  refine awp_slots (s' := (byteV c : V) :: zJ 24) rfl ?_; dsimp only [zJ]
  have hc : c.toNat < 256 := UInt8.toNat_lt _
  simp only [byteV]
  by_cases a3 : (65 : Int) ≤ c.toNat <;> by_cases a4 : (c.toNat : Int) ≤ 90 <;> by_cases a1 : (97 : Int) ≤ c.toNat <;> by_cases a2 : (c.toNat : Int) ≤ 122 <;> by_cases a5 : (48 : Int) ≤ c.toNat <;> by_cases a6 : (c.toNat : Int) ≤ 57 <;> (try (exfalso; omega)) <;> (
  repeat' (first | ((first | refine Yl rfl fun K9 h9 => ?_ | (refine Ym ?_ ?_; (focus (simp [a1, a2, a3, a4, a5, a6]; done)); intro K9 h9)); simp (disch := (first | (simp; done) | omega | (simp; omega))) [a1, a2, a3, a4, a5, a6]; (try simp (disch := (first | omega | (simp; omega))) only [X7]); ((repeat (refine Yz ?_)); (first | refine h9 _ _ (Yp ?_)); clear h9 K9)) | refine Yo ?_ | (refine Y8 fun K hK => ?_) | refine Yq ?_ | (apply hK; clear hK K) | (refine Ye ?_; refine Yf ?_) | (refine Yn ?_ ?_; (focus (simp [a1, a2, a3, a4, a5, a6]; done)); refine Yp ?_) | refine Yg ?_ | (simp only [X0, Nat.reduceBEq]) | clear hK K)
  have b1 : decide (97 ≤ c.toNat) = decide ((97 : Int) ≤ c.toNat) := by simp; omega
  have b2 : decide (c.toNat ≤ 122) = decide ((c.toNat : Int) ≤ 122) := by simp; omega
  have b3 : decide (65 ≤ c.toNat) = decide ((65 : Int) ≤ c.toNat) := by simp; omega
  have b4 : decide (c.toNat ≤ 90) = decide ((c.toNat : Int) ≤ 90) := by simp; omega
  have b5 : decide (48 ≤ c.toNat) = decide ((48 : Int) ≤ c.toNat) := by simp; omega
  have b6 : decide (c.toNat ≤ 57) = decide ((c.toNat : Int) ≤ 57) := by simp; omega
  simp [okB, b1, b2, b3, b4, b5, b6, a1, a2, a3, a4, a5, a6]
  exact .pure .bool)
  · exact .bool

theorem among_call (c : UInt8) (l : List UInt8) (hl : l.length ≤ 1000000) : PCall Tryz.prog 96 [byteV c, .str l] (.bool (decide (c ∈ l))) := by
  refine pcall_body Tryz.func96 rfl Tryz.call96 ?_ ?_
  rotate_left 1
  refine awp_slots (s' := (byteV c : V) :: (.str l : V) :: zJ 15) rfl ?_; dsimp only [zJ]
  simp only [byteV]
  repeat' (first | (refine Y0 rfl fun K9 h9 => ?_; simp (disch := (first | (simp; done) | omega | (simp; omega))); (try simp (disch := (first | omega | (simp; omega))) only [X7]); ((repeat (refine Yz ?_)); (first | refine h9 _ _ (Ys ?_)); clear h9 K9)) | refine Y6 ?_ | (refine Y8 fun K hK => ?_) | refine Y9 ?_ | (apply hK; clear hK K) | refine Ya ?_ | (refine Yb rfl (fun hcnd => ?_) (fun hcnd => ?_) <;> (try simp at hcnd) <;> (try contradiction) <;> (try (exfalso; omega))) | refine Yc ?_ | (refine Yd ?_; simp only [X0, Nat.reduceBEq]) | (refine Ye ?_; refine Yf ?_) | refine Yg ?_ | (simp only [X0, Nat.reduceBEq]) | clear hK K)
  · refine awp_loopU (α := Nat) (fun i => (zN 4 (some V.junk :: some (V.int .i64 i) :: zS 11 []))) (fun i => []) (fun i => i ≤ l.length ∧ ∀ j (h : j < l.length), j < i → l[j] ≠ c) (fun i => l.length - i) 0 ⟨by omega, fun j _ h => by omega⟩ ?_ ?_
    · dsimp only [ups, zN, zS]
      exact Yr [] (by simp [rowsOver])
    rintro i ⟨hi, hall⟩ KL hL
    dsimp only [ups, zN, zS]
    rcases Nat.lt_or_ge i l.length with hi | hi
    · by_cases hx : l[i] = c
      · have hx' : ((l[i].toNat : Int) = c.toNat) := by rw [hx]
        repeat' (first | (refine Y0 rfl fun K9 h9 => ?_; simp (disch := (first | (simp; done) | omega | (simp; omega))) [hx']; (try simp (disch := (first | omega | (simp; omega))) only [X7]); ((repeat (refine Yz ?_)); (first | refine h9 _ _ (Ys ?_)); clear h9 K9)) | refine Y6 ?_ | (refine Y8 fun K hK => ?_) | refine Y9 ?_ | (apply hK; clear hK K) | refine Ya ?_ | (refine Yb rfl (fun hcnd => ?_) (fun hcnd => ?_) <;> (try simp at hcnd) <;> (try contradiction) <;> (try (exfalso; omega))) | refine Yc ?_ | (refine Yd ?_; simp only [X0, Nat.reduceBEq]) | (refine Ye ?_; refine Yf ?_) | refine Yg ?_ | (simp only [X0, Nat.reduceBEq]) | clear hK K)
        have : decide (c ∈ l) = true := by simp; rw [← hx]; exact List.getElem_mem _
        rw [this]
        exact .pure .bool
      · have hx' : ¬ ((l[i].toNat : Int) = c.toNat) := fun e => hx (UInt8.toNat_inj.1 (by omega))
        repeat' (first | (refine Y0 rfl fun K9 h9 => ?_; simp (disch := (first | (simp; done) | omega | (simp; omega))) [hx']; (try simp (disch := (first | omega | (simp; omega))) only [X7]); ((repeat (refine Yz ?_)); (first | refine h9 _ _ (Ys ?_)); clear h9 K9)) | refine Y6 ?_ | (refine Y8 fun K hK => ?_) | refine Y9 ?_ | (apply hK; clear hK K) | refine Ya ?_ | (refine Yb rfl (fun hcnd => ?_) (fun hcnd => ?_) <;> (try simp at hcnd) <;> (try contradiction) <;> (try (exfalso; omega))) | refine Yc ?_ | (refine Yd ?_; simp only [X0, Nat.reduceBEq]) | (refine Ye ?_; refine Yf ?_) | refine Yg ?_ | (simp only [X0, Nat.reduceBEq]) | clear hK K)
        refine hL (i + 1) _ _ ⟨by omega, fun j hj h => ?_⟩ (by omega) ?_
        · rcases Nat.lt_or_ge j i with h3 | h3
          · exact hall j hj h3
          · obtain rfl : j = i := by omega
            exact hx
        · exact Yr [] (by simp [rowsOver])
    · repeat' (first | (refine Y0 rfl fun K9 h9 => ?_; simp (disch := (first | (simp; done) | omega | (simp; omega))); (try simp (disch := (first | omega | (simp; omega))) only [X7]); ((repeat (refine Yz ?_)); (first | refine h9 _ _ (Ys ?_)); clear h9 K9)) | refine Y6 ?_ | (refine Y8 fun K hK => ?_) | refine Y9 ?_ | (apply hK; clear hK K) | refine Ya ?_ | (refine Yb rfl (fun hcnd => ?_) (fun hcnd => ?_) <;> (try simp at hcnd) <;> (try contradiction) <;> (try (exfalso; omega))) | refine Yc ?_ | (refine Yd ?_; simp only [X0, Nat.reduceBEq]) | (refine Ye ?_; refine Yf ?_) | refine Yg ?_ | (simp only [X0, Nat.reduceBEq]) | clear hK K)
      have : decide (c ∈ l) = false := by
        simp
        intro hm
        obtain ⟨j, hj, e⟩ := List.getElem_of_mem hm
        exact hall j hj (by omega) e
      rw [this]
      exact .pure .bool
  · exact .bool
end Go.Proofs.YtcfmanhblonjeaaGreat.Ho
namespace Go.Proofs.YtcfmanhblonjeaaGreat.Ho
open Go.VS Go.Hst
set_option linter.all false
set_option maxRecDepth 100000
attribute [local irreducible] arun arunD arunU AWp aend
def lowP (l : List UInt8) (i : Nat) : List UInt8 := low (l.take i) ++ l.drop i
@[simp] theorem lowP_length (l : List UInt8) (i : Nat) : (lowP l i).length = l.length := by simp [lowP, low]; omega
@[simp] theorem low_length (l : List UInt8) : (low l).length = l.length := by simp [low]
theorem lowP_get (l : List UInt8) (i : Nat) (h : i < l.length) : (lowP l i)[i]'(by simpa using h) = l[i] := by
  have hl : (low (l.take i)).length = i := by simp; omega
  simp only [lowP]
  rw [List.getElem_append_right (by omega)]
  simp [hl]
theorem lowP_succ (l : List UInt8) (i : Nat) (h : i < l.length) : lowP l (i + 1) = (lowP l i).set i (lowB l[i]) := by
  have hl : (low (l.take i)).length = i := by simp; omega
  unfold lowP
  rw [List.set_append_right _ _ (by omega), hl, Nat.sub_self, List.take_succ_eq_append_getElem h, List.drop_eq_getElem_cons h,
    show low (l.take i ++ [l[i]]) = low (l.take i) ++ [lowB l[i]] from List.map_append, List.append_assoc]
  rfl
theorem lowP_full (l : List UInt8) : lowP l l.length = low l := by simp [lowP]
theorem lowP_zero (l : List UInt8) : lowP l 0 = l := by simp [lowP, low]
theorem lowB_id (c : UInt8) (h : ¬ (65 ≤ c.toNat ∧ c.toNat ≤ 90)) : lowB c = c := by rw [lowB, if_neg h]
theorem lowB_up (c : UInt8) (h : 65 ≤ c.toNat ∧ c.toNat ≤ 90) : (lowB c).toNat = c.toNat + 32 := by rw [lowB, if_pos h]; simp; omega
theorem set_self (l : List UInt8) (i : Nat) (c : UInt8) (h : i < l.length) (e : l[i] = c) : l.set i c = l := by
  apply List.ext_getElem (by simp)
  intro j h1 h2
  rw [List.getElem_set]
  split
  · rename_i h; subst h; exact e.symm
  · rfl

theorem lower_call (l : List UInt8) (hl : l.length ≤ 4294967280) : PCall Tryz.prog 97 [.str l] (.str (low l)) := by
  refine pcall_body Tryz.func97 rfl Tryz.call97 ?_ ?_
  rotate_left 1
  refine awp_slots (s' := (.str l : V) :: zJ 32) rfl ?_; dsimp only [zJ]
  repeat' (first | ((first | refine Y0 rfl fun K9 h9 => ?_ | (refine Y3 ?_ ?_; (focus (simp; done)); intro K9 h9)); simp (disch := (first | (simp; done) | omega | (simp; omega))); (try simp (disch := (first | omega | (simp; omega))) only [X7]); ((repeat (refine Yz ?_)); (first | refine h9 _ _ (Ys ?_)); clear h9 K9)) | refine Y6 ?_ | (refine Y8 fun K hK => ?_) | refine Y9 ?_ | (apply hK; clear hK K) | refine Ya ?_ | (refine Yb rfl (fun hcnd => ?_) (fun hcnd => ?_) <;> (try simp at hcnd) <;> (try contradiction) <;> (try (exfalso; omega))) | refine Yc ?_ | (refine Yd ?_; simp only [X0, Nat.reduceBEq]) | (refine Ye ?_; refine Yf ?_) | (refine Yh ?_ ?_; (focus (simp; done)); refine Ys ?_) | refine Yg ?_ | (simp only [X0, Nat.reduceBEq]) | clear hK K)
  · refine awp_countU (fun i => (some V.junk :: none :: some V.junk :: none :: zS 4 (none :: some (V.int .i64 i) :: zS 23 []))) (fun i => [.live ((lowP l i).map byteV)]) l.length ?_ fun i hi KL hL => ?_
    · dsimp only [ups, zN, zS]
      exact Yr [some 0] (by simp [rowsOver, lowP_zero])
    dsimp only [ups, zN, zS]
    have hpl := lowP_length l i
    rcases Nat.lt_or_ge i l.length with hi | hi
    · have hg := lowP_get l i hi
      have hs := lowP_succ l i hi
      have hc : (l[i]).toNat < 256 := UInt8.toNat_lt _
      obtain ⟨c, hcc⟩ : ∃ c, l[i] = c := ⟨_, rfl⟩
      rw [hcc] at hg hs hc
      obtain ⟨L2, hL2⟩ : ∃ L2, lowP l (i + 1) = L2 := ⟨_, rfl⟩
      rw [hL2] at hs
      by_cases a1 : (65 : Int) ≤ c.toNat <;> by_cases a2 : (c.toNat : Int) ≤ 90 <;> (try (exfalso; omega))
      · have hu := lowB_up c ⟨by omega, by omega⟩
        have hw : (c.toNat : Int) + 32 = ((lowB c).toNat : Int) := by omega
        repeat' (first | ((first | refine Y0 rfl fun K9 h9 => ?_ | (refine Y3 ?_ ?_; (focus (simp [hpl, hg, a1, a2]; done)); intro K9 h9)); simp (disch := (first | (simp; done) | omega | (simp; omega))) [hpl, hg, a1, a2]; (try simp (disch := (first | omega | (simp; omega))) only [X7]); ((repeat (refine Yz ?_)); (first | refine h9 _ _ (Ys ?_)); clear h9 K9)) | refine Y6 ?_ | (refine Y8 fun K hK => ?_) | refine Y9 ?_ | (apply hK; clear hK K) | refine Ya ?_ | (refine Yb rfl (fun hcnd => ?_) (fun hcnd => ?_) <;> (try simp at hcnd) <;> (try contradiction) <;> (try (exfalso; omega))) | refine Yc ?_ | (refine Yd ?_; simp only [X0, Nat.reduceBEq]) | (refine Ye ?_; refine Yf ?_) | (refine Yh ?_ ?_; (focus (simp [hpl, hg, a1, a2]; done)); refine Ys ?_) | refine Yg ?_ | (simp only [X0, Nat.reduceBEq]) | clear hK K)
        refine hL _ _ hi ?_
        have e : ((lowP l i).map byteV).set i (.int .u8 (lowB c).toNat) = L2.map byteV := by rw [hs, List.map_set]; rfl
        exact Le.mk [some 0] (by dsimp only [ups, zN, zS]; simp) (rowsRen_of (by simp) (by rw [hw, e, hL2]; simp [rowsOver])) (by simp)
      all_goals
        have hid := lowB_id c (by omega)
        repeat' (first | ((first | refine Y0 rfl fun K9 h9 => ?_ | (refine Y3 ?_ ?_; (focus (simp [hpl, hg, a1, a2]; done)); intro K9 h9)); simp (disch := (first | (simp; done) | omega | (simp; omega))) [hpl, hg, a1, a2]; (try simp (disch := (first | omega | (simp; omega))) only [X7]); ((repeat (refine Yz ?_)); (first | refine h9 _ _ (Ys ?_)); clear h9 K9)) | refine Y6 ?_ | (refine Y8 fun K hK => ?_) | refine Y9 ?_ | (apply hK; clear hK K) | refine Ya ?_ | (refine Yb rfl (fun hcnd => ?_) (fun hcnd => ?_) <;> (try simp at hcnd) <;> (try contradiction) <;> (try (exfalso; omega))) | refine Yc ?_ | (refine Yd ?_; simp only [X0, Nat.reduceBEq]) | (refine Ye ?_; refine Yf ?_) | (refine Yh ?_ ?_; (focus (simp [hpl, hg, a1, a2]; done)); refine Ys ?_) | refine Yg ?_ | (simp only [X0, Nat.reduceBEq]) | clear hK K)
        refine hL _ _ hi ?_
        rw [hid, set_self (lowP l i) i c (by omega) hg] at hs
        rw [hL2, hs]
        exact Yr [some 0] (by simp [rowsOver])
    · obtain rfl : i = l.length := by omega
      rw [lowP_full]
      have hB := bytes_full (l := low l) (n := l.length) (by simp)
      have hB2 : List.take l.length (low l) = low l := List.take_of_length_le (by simp)
      repeat' (first | ((first | refine Y0 rfl fun K9 h9 => ?_ | (refine Y3 ?_ ?_; (focus (simp [hB, hB2]; done)); intro K9 h9)); simp (disch := (first | (simp; done) | omega | (simp; omega))) [hB, hB2]; (try simp (disch := (first | omega | (simp; omega))) only [X7]); ((repeat (refine Yz ?_)); (first | refine h9 _ _ (Ys ?_)); clear h9 K9)) | refine Y6 ?_ | (refine Y8 fun K hK => ?_) | refine Y9 ?_ | (apply hK; clear hK K) | refine Ya ?_ | (refine Yb rfl (fun hcnd => ?_) (fun hcnd => ?_) <;> (try simp at hcnd) <;> (try contradiction) <;> (try (exfalso; omega))) | refine Yc ?_ | (refine Yd ?_; simp only [X0, Nat.reduceBEq]) | (refine Ye ?_; refine Yf ?_) | (refine Yh ?_ ?_; (focus (simp [hB, hB2]; done)); refine Ys ?_) | refine Yg ?_ | (simp only [X0, Nat.reduceBEq]) | clear hK K)
      exact .pure .str
  · exact .str

def eqB (a b : List UInt8) : Bool := low a == low b
def endB (s t : List UInt8) : Bool := Lib.hasSuffix (low s) (low t)
theorem alike_call (a b : List UInt8) (ha : a.length ≤ 4294967280) (hb : b.length ≤ 4294967280) : PCall Tryz.prog 80 [.str a, .str b] (.bool (eqB a b)) := by
  refine pcall_body Tryz.func80 rfl Tryz.call80 ?_ ?_
  rotate_left 1
  refine awp_slots (s' := (.str a : V) :: (.str b : V) :: zJ 8) rfl ?_; dsimp only [zJ]
  repeat' (first | (refine Y0 rfl fun K9 h9 => ?_; simp (disch := (first | (simp; done) | omega | (simp; omega))); (try simp (disch := (first | omega | (simp; omega))) only [X7]); ((first | refine acall_pure (lower_call a ha) (by simp) ?_ | refine acall_pure (lower_call b hb) (by simp) ?_ | skip) <;> ((repeat (refine Yz ?_)); (first | refine h9 _ _ (Ys ?_)); clear h9 K9))) | refine Y6 ?_ | (refine Y8 fun K hK => ?_) | refine Y9 ?_ | (apply hK; clear hK K) | (refine Ye ?_; refine Yf ?_) | refine Yg ?_ | (simp only [X0, Nat.reduceBEq]) | clear hK K)
  · simp [eqB]
    exact .pure .bool
  · exact .bool
theorem endB_eq (s t : List UInt8) : endB s t = (decide (t.length ≤ s.length) && eqB (s.drop (s.length - t.length)) t) := by
  have hm : low (s.drop (s.length - t.length)) = (low s).drop (s.length - t.length) := List.map_drop
  rw [endB, eqB, hm, Lib.hasSuffix]
  apply Bool.eq_iff_iff.2
  rw [List.isSuffixOf_iff_suffix, Bool.and_eq_true, decide_eq_true_eq, beq_iff_eq, List.suffix_iff_eq_drop]
  constructor
  · intro h
    have := congrArg List.length h
    simp at this
    simp at h
    exact ⟨by omega, h.symm⟩
  · rintro ⟨h1, h2⟩
    simp
    exact h2.symm
theorem rends_call (a b : List UInt8) (ha : a.length ≤ 4294967280) (hb : b.length ≤ 4294967280) : PCall Tryz.prog 81 [.str a, .str b] (.bool (endB a b)) := by
  refine pcall_body Tryz.func81 rfl Tryz.call81 ?_ ?_
  rotate_left 1
  refine awp_slots (s' := (.str a : V) :: (.str b : V) :: zJ 19) rfl ?_; dsimp only [zJ]
  by_cases h : b.length ≤ a.length
  · have h' : (b.length : Int) ≤ a.length := by omega
    have e : ((a.length : Int) - b.length).toNat = a.length - b.length := by omega
    have hla : (a.drop (a.length - b.length)).length ≤ 4294967280 := by simp; omega
    repeat' (first | ((first | refine Yl rfl fun K9 h9 => ?_ | (refine Ym ?_ ?_; (focus (simp [h, h', e, List.take_of_length_le]; done)); intro K9 h9)); simp (disch := (first | (simp; done) | omega | (simp; omega))) [h, h', e, List.take_of_length_le]; (try simp (disch := (first | omega | (simp; omega))) only [X7]); ((first | refine acall_pure (alike_call (a.drop (a.length - b.length)) b hla hb) (by simp) ?_ | skip) <;> ((repeat (refine Yz ?_)); (first | refine h9 _ _ (Yp ?_)); clear h9 K9))) | refine Yo ?_ | (refine Y8 fun K hK => ?_) | refine Yq ?_ | (apply hK; clear hK K) | (refine Ye ?_; refine Yf ?_) | (refine Yn ?_ ?_; (focus (simp [h, h', e, List.take_of_length_le]; done)); refine Yp ?_) | refine Yg ?_ | (simp only [X0, Nat.reduceBEq]) | clear hK K)
    rw [endB_eq]
    simp [h]
    exact .pure .bool
  · repeat' (first | ((first | refine Yl rfl fun K9 h9 => ?_ | (refine Ym ?_ ?_; (focus (simp [h]; done)); intro K9 h9)); simp (disch := (first | (simp; done) | omega | (simp; omega))) [h]; (try simp (disch := (first | omega | (simp; omega))) only [X7]); ((repeat (refine Yz ?_)); (first | refine h9 _ _ (Yp ?_)); clear h9 K9)) | refine Yo ?_ | (refine Y8 fun K hK => ?_) | refine Yq ?_ | (apply hK; clear hK K) | (refine Ye ?_; refine Yf ?_) | (refine Yn ?_ ?_; (focus (simp [h]; done)); refine Yp ?_) | refine Yg ?_ | (simp only [X0, Nat.reduceBEq]) | clear hK K)
    rw [endB_eq]
    simp [h]
    exact .pure .bool
  · exact .bool
end Go.Proofs.YtcfmanhblonjeaaGreat.Ho
namespace Go.Proofs.YtcfmanhblonjeaaGreat.Ho
open Go.VS Go.Hst
set_option linter.all false
set_option maxRecDepth 100000
attribute [local irreducible] arun arunD arunU AWp aend
def okL (c : UInt8) : Bool := okB c || c == 45
def labelB (l : List UInt8) : Bool := decide (1 ≤ l.length) && (decide (l.length ≤ 63) && (!(l.getD 0 0 == 45) && (!(l.getD (l.length - 1) 0 == 45) && l.all okL)))
theorem u8_ne {a b : UInt8} (h : a ≠ b) : ¬ ((a.toNat : Int) = b.toNat) := fun e => h (UInt8.toNat_inj.1 (by omega))
theorem u8i (a k : UInt8) (n : Int) (h : n = k.toNat) : ((a.toNat : Int) = n) ↔ a = k := by
  subst h
  constructor
  · intro h
    exact UInt8.toNat_inj.1 (by omega)
  · rintro rfl; rfl
theorem u45 {a : UInt8} : ((a.toNat : Int) = 45) ↔ a = 45 := u8i a 45 45 rfl
theorem all_false {l : List UInt8} {p : UInt8 → Bool} {i : Nat} (hi : i < l.length) (h : p l[i] = false) : l.all p = false := by
  rw [List.all_eq_false]
  exact ⟨l[i], List.getElem_mem _, by simp [h]⟩
theorem all_true {l : List UInt8} {p : UInt8 → Bool} (h : ∀ j (h : j < l.length), p l[j] = true) : l.all p = true := by
  rw [List.all_eq_true]
  intro x hx
  obtain ⟨j, hj, rfl⟩ := List.getElem_of_mem hx
  exact h j hj

end Go.Proofs.YtcfmanhblonjeaaGreat.Ho
namespace Go.Proofs.YtcfmanhblonjeaaGreat.Ho
open Go.VS Go.Hst
set_option linter.all false
set_option maxRecDepth 100000
attribute [local irreducible] arun arunD arunU AWp aend
def dnsB (s : List UInt8) : Bool := decide (s.length ≤ 128) && (splitC 46 s).all labelB
theorem allL_false {α : Type} {l : List α} {p : α → Bool} {i : Nat} (hi : i < l.length) (h : p l[i] = false) : l.all p = false := by
  rw [List.all_eq_false]
  exact ⟨l[i], List.getElem_mem _, by simp [h]⟩
theorem allL_true {α : Type} {l : List α} {p : α → Bool} (h : ∀ j (h : j < l.length), p l[j] = true) : l.all p = true := by
  rw [List.all_eq_true]
  intro x hx
  obtain ⟨j, hj, rfl⟩ := List.getElem_of_mem hx
  exact h j hj

structure SpH (c : UInt8) (s : List UInt8) (x : List (List UInt8) × Nat × Nat) : Prop where
  i_le : x.2.2 ≤ s.length + 1
  a_le : x.2.1 ≤ x.2.2
  n_le : x.1.length ≤ x.2.2
  run : x.2.2 ≤ s.length → x.1 ++ splitC c (s.drop x.2.1) = splitC c s ∧ c ∉ (s.drop x.2.1).take (x.2.2 - x.2.1)
  fin : x.2.2 = s.length + 1 → x.1 = splitC c s

theorem take_next {s : List UInt8} {a i : Nat} (ha : a ≤ i) (hi : i < s.length) : (s.drop a).take (i + 1 - a) = (s.drop a).take (i - a) ++ [s[i]] := by
  rw [show i + 1 - a = (i - a) + 1 by omega, List.take_succ_eq_append_getElem (by simp; omega)]
  simp [show a + (i - a) = i by omega]
theorem drop_at {s : List UInt8} {a i : Nat} (ha : a ≤ i) (hi : i < s.length) : s.drop a = (s.drop a).take (i - a) ++ s[i] :: s.drop (i + 1) := by
  conv => lhs; rw [← List.take_append_drop (i - a) (s.drop a)]
  rw [List.drop_drop, show a + (i - a) = i by omega, List.drop_eq_getElem_cons hi]

theorem rsplit_call (s : List UInt8) (c : UInt8) (hs : s.length ≤ 1000000) : PCall Tryz.prog 98 [.str s, byteV c] (.sl (splitC c s).length ((splitC c s).map V.str)) := by
  refine pcall_body Tryz.func98 rfl Tryz.call98 ?_ ?_
  rotate_left 1
  refine awp_slots (s' := (.str s : V) :: (byteV c : V) :: zJ 33) rfl ?_; dsimp only [zJ]
  simp only [byteV]
  repeat' (first | ((first | refine Y0 rfl fun K9 h9 => ?_ | (refine Y3 ?_ ?_; (focus (simp; done)); intro K9 h9)); simp (disch := (first | (simp; done) | omega | (simp; omega))); (try simp (disch := (first | omega | (simp; omega))) only [X7]); ((repeat (refine Yz ?_)); (first | refine h9 _ _ (Ys ?_)); clear h9 K9)) | refine Y6 ?_ | (refine Y8 fun K hK => ?_) | refine Y9 ?_ | (apply hK; clear hK K) | refine Ya ?_ | (refine Yb rfl (fun hcnd => ?_) (fun hcnd => ?_) <;> (try simp at hcnd) <;> (try contradiction) <;> (try (exfalso; omega))) | refine Yc ?_ | (refine Yd ?_; simp only [X0, Nat.reduceBEq]) | (refine Ye ?_; refine Yf ?_) | (refine Yh ?_ ?_; (focus (simp; done)); refine Ys ?_) | refine Yg ?_ | (simp only [X0, Nat.reduceBEq]) | clear hK K)
  · refine awp_loopU (α := List (List UInt8) × Nat × Nat) (fun x => (zN 4 (some V.junk :: some (V.osl 0 0 x.1.length 1) :: some (V.int .i64 x.2.1) :: some (V.int .i64 x.2.2) :: zS 27 []))) (fun x => [.live (x.1.map V.str)]) (SpH c s) (fun x => s.length + 1 - x.2.2) ([], 0, 0)
      ⟨by simp, by simp, by simp, fun _ => by simp, fun h => by simp at h⟩ ?_ ?_
    · dsimp only [ups, zN, zS]
      exact Yr [none] (by simp [rowsOver])
    rintro ⟨out, a, i⟩ ⟨hi, ha, hn, hrun, hfin⟩ KL hL
    dsimp only at hi ha hn hrun hfin
    dsimp only [ups, zN, zS]
    rcases Nat.lt_or_ge s.length i with hgt | hi
    · obtain rfl := hfin (by omega)
      repeat' (first | ((first | refine Y0 rfl fun K9 h9 => ?_ | (refine Y3 ?_ ?_; (focus (simp [bytes_full, List.take_of_length_le]; done)); intro K9 h9)); simp (disch := (first | (simp; done) | omega | (simp; omega))) [bytes_full, List.take_of_length_le]; (try simp (disch := (first | omega | (simp; omega))) only [X7]); ((repeat (refine Yz ?_)); (first | refine h9 _ _ (Ys ?_)); clear h9 K9)) | refine Y6 ?_ | (refine Y8 fun K hK => ?_) | refine Y9 ?_ | (apply hK; clear hK K) | refine Ya ?_ | (refine Yb rfl (fun hcnd => ?_) (fun hcnd => ?_) <;> (try simp at hcnd) <;> (try contradiction) <;> (try (exfalso; omega))) | refine Yc ?_ | (refine Yd ?_; simp only [X0, Nat.reduceBEq]) | (refine Ye ?_; refine Yf ?_) | (refine Yh ?_ ?_; (focus (simp [bytes_full, List.take_of_length_le]; done)); refine Ys ?_) | refine Yg ?_ | (simp only [X0, Nat.reduceBEq]) | clear hK K)
      simp [List.take_of_length_le]
      exact view_row rfl (by simp) (by simp)
    obtain ⟨hr, hno⟩ := hrun hi
    have hsub : ((s.drop a).take (i - a)).length ≤ s.length := by simp; omega
    rcases Nat.lt_or_ge i s.length with hi | hi
    · by_cases hx : s[i] = c
      · have hx' : ((s[i].toNat : Int) = c.toNat) := by rw [hx]
        have hne : ¬ (i : Int) = s.length := by omega
        have hd := drop_at ha hi
        generalize hp : (s.drop a).take (i - a) = p at *
        repeat' (first | ((first | refine Yl rfl fun K9 h9 => ?_ | (refine Ym ?_ ?_; (focus (simp [hx', hne, hp, List.take_of_length_le]; done)); intro K9 h9)); simp (disch := (first | (simp; done) | omega | (simp; omega))) [hx', hne, hp, List.take_of_length_le]; (try simp (disch := (first | omega | (simp; omega))) only [X7]); ((repeat (refine Yz ?_)); (first | refine h9 _ _ (Yp ?_)); clear h9 K9)) | refine Yo ?_ | (refine Y8 fun K hK => ?_) | refine Yq ?_ | (apply hK; clear hK K) | refine Ya ?_ | (refine Yb rfl (fun hcnd => ?_) (fun hcnd => ?_) <;> (try simp at hcnd) <;> (try contradiction) <;> (try (exfalso; omega))) | refine Yc ?_ | (refine Yd ?_; simp only [X0, Nat.reduceBEq]) | (refine Ye ?_; refine Yf ?_) | (refine Yn ?_ ?_; (focus (simp [hx', hne, hp, List.take_of_length_le]; done)); refine Yp ?_) | refine Yg ?_ | (simp only [X0, Nat.reduceBEq]) | clear hK K)
        refine hL (out ++ [p], i + 1, i + 1) _ _ ⟨by dsimp only; omega, by dsimp only; omega, by simp; omega, fun _ => ?_, fun h => by dsimp only at h; omega⟩ (by dsimp only; omega) ?_
        · dsimp only
          refine ⟨?_, by simp⟩
          rw [← hr, hd, hx, splitC_hit c p _ hno]
          simp
        · have : (out ++ [p]).map V.str = out.map V.str ++ [.str p] := by simp
          dsimp only
          rw [this]
          exact Yr [some 2] (by simp [rowsOver])
      · have hx' : ¬ ((s[i].toNat : Int) = c.toNat) := u8_ne hx
        have hne : ¬ (i : Int) = s.length := by omega
        repeat' (first | ((first | refine Yl rfl fun K9 h9 => ?_ | (refine Ym ?_ ?_; (focus (simp [hx', hne]; done)); intro K9 h9)); simp (disch := (first | (simp; done) | omega | (simp; omega))) [hx', hne]; (try simp (disch := (first | omega | (simp; omega))) only [X7]); ((repeat (refine Yz ?_)); (first | refine h9 _ _ (Yp ?_)); clear h9 K9)) | refine Yo ?_ | (refine Y8 fun K hK => ?_) | refine Yq ?_ | (apply hK; clear hK K) | refine Ya ?_ | (refine Yb rfl (fun hcnd => ?_) (fun hcnd => ?_) <;> (try simp at hcnd) <;> (try contradiction) <;> (try (exfalso; omega))) | refine Yc ?_ | (refine Yd ?_; simp only [X0, Nat.reduceBEq]) | (refine Ye ?_; refine Yf ?_) | (refine Yn ?_ ?_; (focus (simp [hx', hne]; done)); refine Yp ?_) | refine Yg ?_ | (simp only [X0, Nat.reduceBEq]) | clear hK K)
        refine hL (out, a, i + 1) _ _ ⟨by dsimp only; omega, by dsimp only; omega, by dsimp only; omega, fun _ => ⟨hr, ?_⟩, fun h => by dsimp only at h; omega⟩ (by dsimp only; omega) ?_
        · dsimp only
          rw [take_next ha hi]
          simp only [List.mem_append, List.mem_singleton, not_or]
          exact ⟨hno, fun e => hx e.symm⟩
        · exact Yr [some 0] (by simp [rowsOver])
    · obtain rfl : i = s.length := by omega
      have hp : (s.drop a).take (s.length - a) = s.drop a := List.take_of_length_le (by simp)
      rw [hp] at hno
      repeat' (first | ((first | refine Yl rfl fun K9 h9 => ?_ | (refine Ym ?_ ?_; (focus (simp [hp, List.take_of_length_le]; done)); intro K9 h9)); simp (disch := (first | (simp; done) | omega | (simp; omega))) [hp, List.take_of_length_le]; (try simp (disch := (first | omega | (simp; omega))) only [X7]); ((repeat (refine Yz ?_)); (first | refine h9 _ _ (Yp ?_)); clear h9 K9)) | refine Yo ?_ | (refine Y8 fun K hK => ?_) | refine Yq ?_ | (apply hK; clear hK K) | refine Ya ?_ | (refine Yb rfl (fun hcnd => ?_) (fun hcnd => ?_) <;> (try simp at hcnd) <;> (try contradiction) <;> (try (exfalso; omega))) | refine Yc ?_ | (refine Yd ?_; simp only [X0, Nat.reduceBEq]) | (refine Ye ?_; refine Yf ?_) | (refine Yn ?_ ?_; (focus (simp [hp, List.take_of_length_le]; done)); refine Yp ?_) | refine Yg ?_ | (simp only [X0, Nat.reduceBEq]) | clear hK K)
      refine hL (out ++ [s.drop a], s.length + 1, s.length + 1) _ _ ⟨by dsimp only; omega, by dsimp only; omega, by simp; omega, fun h => by dsimp only at h; omega, fun _ => ?_⟩ (by dsimp only; omega) ?_
      · dsimp only
        rw [← hr, splitC_not c _ hno]
      · have : (out ++ [s.drop a]).map V.str = out.map V.str ++ [.str (s.drop a)] := by simp
        dsimp only
        rw [this]
        exact Yr [some 2] (by simp [rowsOver])
  · simp
end Go.Proofs.YtcfmanhblonjeaaGreat.Ho
namespace Go.Proofs.YtcfmanhblonjeaaGreat.Ho
open Go.VS Go.Hst
set_option linter.all false
set_option maxRecDepth 100000
attribute [local irreducible] arun arunD arunU AWp aend
theorem rdns_call (s : List UInt8) (hs : s.length ≤ 1000000) : PCall Tryz.prog 94 [.str s] (.bool (dnsB s)) := by
  refine pcall_body Tryz.func94 rfl Tryz.call94 ?_ ?_
  rotate_left 1
  refine awp_slots (s' := (.str s : V) :: zJ 54) rfl ?_; dsimp only [zJ]
  by_cases h1 : (128 : Int) < s.length
  · repeat' (first | ((first | refine Yl rfl fun K9 h9 => ?_ | (refine Ym ?_ ?_; (focus (simp [h1]; done)); intro K9 h9)); simp (disch := (first | (simp; done) | omega | (simp; omega))) [h1]; (try simp (disch := (first | omega | (simp; omega))) only [X7]); ((repeat (refine Yz ?_)); (first | refine h9 _ _ (Yp ?_)); clear h9 K9)) | refine Yo ?_ | (refine Y8 fun K hK => ?_) | refine Yq ?_ | (apply hK; clear hK K) | refine Ya ?_ | (refine Yb rfl (fun hcnd => ?_) (fun hcnd => ?_) <;> (try simp at hcnd) <;> (try contradiction) <;> (try (exfalso; omega))) | refine Yc ?_ | (refine Yd ?_; simp only [X0, Nat.reduceBEq]) | (refine Ye ?_; refine Yf ?_) | (refine Yn ?_ ?_; (focus (simp [h1]; done)); refine Yp ?_) | refine Yg ?_ | (simp only [X0, Nat.reduceBEq]) | clear hK K)
    have : dnsB s = false := by
      have : decide (s.length ≤ 128) = false := by simp; omega
      simp [dnsB, this]
    rw [this]
    exact .pure .bool
  have hdB : dnsB s = (splitC 46 s).all labelB := by
    have : decide (s.length ≤ 128) = true := by simp; omega
    simp [dnsB, this]
  rw [hdB]
  have hsp := rsplit_call s 46 hs
  rw [show byteV 46 = .int .u8 46 from rfl] at hsp
  have hlen := splitC_len 46 s
  have hcnt : s.count 46 ≤ s.length := List.count_le_length
  have hpc := splitC_piece 46 s
  generalize splitC 46 s = L at *
  have hLl : L.length ≤ 4294967281 := by omega
  repeat' (first | ((first | refine Yl rfl fun K9 h9 => ?_ | (refine Ym ?_ ?_; (focus (simp [h1]; done)); intro K9 h9)); simp (disch := (first | (simp; done) | omega | (simp; omega))) [h1]; (try simp (disch := (first | omega | (simp; omega))) only [X7]); ((first | refine acall_pure (hsp) (by simp) ?_ | skip) <;> ((repeat (refine Yz ?_)); (first | refine h9 _ _ (Yp ?_)); clear h9 K9))) | refine Yo ?_ | (refine Y8 fun K hK => ?_) | refine Yq ?_ | (apply hK; clear hK K) | refine Ya ?_ | (refine Yb rfl (fun hcnd => ?_) (fun hcnd => ?_) <;> (try simp at hcnd) <;> (try contradiction) <;> (try (exfalso; omega))) | refine Yc ?_ | (refine Yd ?_; simp only [X0, Nat.reduceBEq]) | (refine Ye ?_; refine Yf ?_) | (refine Yn ?_ ?_; (focus (simp [h1]; done)); refine Yp ?_) | refine Yg ?_ | (simp only [X0, Nat.reduceBEq]) | clear hK K)
  · refine awp_loopU (α := Nat) (fun i => (some V.junk :: none :: some V.junk :: none :: zS 6 (zN 2 (some (V.int .i64 i) :: zS 42 [])))) (fun i => []) (fun i => i ≤ L.length ∧ ∀ j (h : j < L.length), j < i → labelB L[j] = true) (fun i => L.length - i) 0 ⟨by omega, fun j _ h => by omega⟩ ?_ ?_
    · dsimp only [ups, zN, zS]
      exact Yr [] (by simp [rowsOver])
    rintro i ⟨hi, hall⟩ KL hL
    dsimp only [ups, zN, zS]
    rcases Nat.lt_or_ge i L.length with hi | hi
    · have hstep : labelB L[i] = true → i + 1 ≤ L.length ∧ ∀ j (h : j < L.length), j < i + 1 → labelB L[j] = true := fun hx => ⟨by omega, fun j hj h => by
        rcases Nat.lt_or_ge j i with h3 | h3
        · exact hall j hj h3
        · obtain rfl : j = i := by omega
          exact hx⟩
      have hfalse : labelB L[i] = false → L.all labelB = false := allL_false hi
      obtain ⟨l, hxx⟩ : ∃ x, L[i] = x := ⟨_, rfl⟩
      have hxl : l.length ≤ 4294967280 := by
        have := (hpc l (by rw [← hxx]; exact List.getElem_mem _)).2
        omega
      rw [hxx] at hstep hfalse
      by_cases h1 : l = []
      · subst h1
        repeat' (first | ((first | refine Yl rfl fun K9 h9 => ?_ | (refine Ym ?_ ?_; (focus (simp [hxx]; done)); intro K9 h9)); simp (disch := (first | (simp; done) | omega | (simp; omega))) [hxx]; (try simp (disch := (first | omega | (simp; omega))) only [X7]); ((repeat (refine Yz ?_)); (first | refine h9 _ _ (Yp ?_)); clear h9 K9)) | refine Yo ?_ | (refine Y8 fun K hK => ?_) | refine Yq ?_ | (apply hK; clear hK K) | refine Ya ?_ | (refine Yb rfl (fun hcnd => ?_) (fun hcnd => ?_) <;> (try simp at hcnd) <;> (try contradiction) <;> (try (exfalso; omega))) | refine Yc ?_ | (refine Yd ?_; simp only [X0, Nat.reduceBEq]) | (refine Ye ?_; refine Yf ?_) | (refine Yn ?_ ?_; (focus (simp [hxx]; done)); refine Yp ?_) | refine Yg ?_ | (simp only [X0, Nat.reduceBEq]) | clear hK K)
        rw [hfalse (by rfl)]
        exact .pure .bool
      have hpos : 0 < l.length := List.length_pos_iff.2 h1
      replace h1 : ¬ (l.length : Int) < 1 := by omega
      by_cases h2 : (63 : Int) < l.length
      · repeat' (first | ((first | refine Yl rfl fun K9 h9 => ?_ | (refine Ym ?_ ?_; (focus (simp [h1, h2, hxx]; done)); intro K9 h9)); simp (disch := (first | (simp; done) | omega | (simp; omega))) [h1, h2, hxx]; (try simp (disch := (first | omega | (simp; omega))) only [X7]); ((repeat (refine Yz ?_)); (first | refine h9 _ _ (Yp ?_)); clear h9 K9)) | refine Yo ?_ | (refine Y8 fun K hK => ?_) | refine Yq ?_ | (apply hK; clear hK K) | refine Ya ?_ | (refine Yb rfl (fun hcnd => ?_) (fun hcnd => ?_) <;> (try simp at hcnd) <;> (try contradiction) <;> (try (exfalso; omega))) | refine Yc ?_ | (refine Yd ?_; simp only [X0, Nat.reduceBEq]) | (refine Ye ?_; refine Yf ?_) | (refine Yn ?_ ?_; (focus (simp [h1, h2, hxx]; done)); refine Yp ?_) | refine Yg ?_ | (simp only [X0, Nat.reduceBEq]) | clear hK K)
        rw [hfalse (by
          have : decide (l.length ≤ 63) = false := by simp; omega
          simp [labelB, this])]
        exact .pure .bool
      have e1 : ((l.length : Int) - 1).toNat = l.length - 1 := by omega
      have g0 : l.getD 0 0 = l[0]'(by omega) := by simp [show 0 < l.length by omega]
      have g1 : l.getD (l.length - 1) 0 = l[l.length - 1]'(by omega) := by simp [show l.length - 1 < l.length by omega]
      by_cases h3 : ((l[0]'(by omega)).toNat : Int) = 45
      · repeat' (first | ((first | refine Yl rfl fun K9 h9 => ?_ | (refine Ym ?_ ?_; (focus (simp [h1, h2, h3, hxx]; done)); intro K9 h9)); simp (disch := (first | (simp; done) | omega | (simp; omega))) [h1, h2, h3, hxx]; (try simp (disch := (first | omega | (simp; omega))) only [X7]); ((repeat (refine Yz ?_)); (first | refine h9 _ _ (Yp ?_)); clear h9 K9)) | refine Yo ?_ | (refine Y8 fun K hK => ?_) | refine Yq ?_ | (apply hK; clear hK K) | refine Ya ?_ | (refine Yb rfl (fun hcnd => ?_) (fun hcnd => ?_) <;> (try simp at hcnd) <;> (try contradiction) <;> (try (exfalso; omega))) | refine Yc ?_ | (refine Yd ?_; simp only [X0, Nat.reduceBEq]) | (refine Ye ?_; refine Yf ?_) | (refine Yn ?_ ?_; (focus (simp [h1, h2, h3, hxx]; done)); refine Yp ?_) | refine Yg ?_ | (simp only [X0, Nat.reduceBEq]) | clear hK K)
        rw [hfalse (by
          have : l[0]'(by omega) = 45 := u45.1 h3
          rw [labelB, g0, this]; simp)]
        exact .pure .bool
      by_cases h4 : ((l[l.length - 1]'(by omega)).toNat : Int) = 45
      · repeat' (first | ((first | refine Yl rfl fun K9 h9 => ?_ | (refine Ym ?_ ?_; (focus (simp [h1, h2, h3, h4, e1, hxx]; done)); intro K9 h9)); simp (disch := (first | (simp; done) | omega | (simp; omega))) [h1, h2, h3, h4, e1, hxx]; (try simp (disch := (first | omega | (simp; omega))) only [X7]); ((repeat (refine Yz ?_)); (first | refine h9 _ _ (Yp ?_)); clear h9 K9)) | refine Yo ?_ | (refine Y8 fun K hK => ?_) | refine Yq ?_ | (apply hK; clear hK K) | refine Ya ?_ | (refine Yb rfl (fun hcnd => ?_) (fun hcnd => ?_) <;> (try simp at hcnd) <;> (try contradiction) <;> (try (exfalso; omega))) | refine Yc ?_ | (refine Yd ?_; simp only [X0, Nat.reduceBEq]) | (refine Ye ?_; refine Yf ?_) | (refine Yn ?_ ?_; (focus (simp [h1, h2, h3, h4, e1, hxx]; done)); refine Yp ?_) | refine Yg ?_ | (simp only [X0, Nat.reduceBEq]) | clear hK K)
        rw [hfalse (by
          have : l[l.length - 1]'(by omega) = 45 := u45.1 h4
          rw [labelB, g0, g1, this]; simp)]
        exact .pure .bool
      have hB : labelB l = l.all okL := by
        have q1 : decide (1 ≤ l.length) = true := by simp; omega
        have q2 : decide (l.length ≤ 63) = true := by simp; omega
        have q3 : l[0]'(by omega) ≠ 45 := fun e => h3 (u45.2 e)
        have q4 : l[l.length - 1]'(by omega) ≠ 45 := fun e => h4 (u45.2 e)
        rw [labelB, g0, g1, beq_false_of_ne q3, beq_false_of_ne q4, q1, q2]; rfl
      rw [hB] at hstep hfalse
      repeat' (first | ((first | refine Yl rfl fun K9 h9 => ?_ | (refine Ym ?_ ?_; (focus (simp [h1, h2, h3, h4, e1, hxx]; done)); intro K9 h9)); simp (disch := (first | (simp; done) | omega | (simp; omega))) [h1, h2, h3, h4, e1, hxx]; (try simp (disch := (first | omega | (simp; omega))) only [X7]); ((repeat (refine Yz ?_)); (first | refine h9 _ _ (Yp ?_)); clear h9 K9)) | refine Yo ?_ | (refine Y8 fun K hK => ?_) | refine Yq ?_ | (apply hK; clear hK K) | refine Ya ?_ | (refine Yb rfl (fun hcnd => ?_) (fun hcnd => ?_) <;> (try simp at hcnd) <;> (try contradiction) <;> (try (exfalso; omega))) | refine Yc ?_ | (refine Yd ?_; simp only [X0, Nat.reduceBEq]) | (refine Ye ?_; refine Yf ?_) | (refine Yn ?_ ?_; (focus (simp [h1, h2, h3, h4, e1, hxx]; done)); refine Yp ?_) | refine Yg ?_ | (simp only [X0, Nat.reduceBEq]) | clear hK K)
      refine awp_loopU (α := Nat) (fun i => (some V.junk :: none :: some V.junk :: zN 2 (some (V.int .i64 i) :: zS 4 (zN 3 (zS 42 []))))) (fun i => []) (fun i => i ≤ l.length ∧ ∀ j (h : j < l.length), j < i → okL l[j] = true) (fun i => l.length - i) 0 ⟨by omega, fun j _ h => by omega⟩ ?_ ?_
      · dsimp only [ups, zN, zS]
        exact Yr [] (by simp [rowsOver])
      rintro j ⟨hj, hall2⟩ KL2 hL2
      dsimp only [ups, zN, zS]
      rcases Nat.lt_or_ge j l.length with hj | hj
      · have hstep2 : okL l[j] = true → j + 1 ≤ l.length ∧ ∀ k (h : k < l.length), k < j + 1 → okL l[k] = true := fun hx => ⟨by omega, fun k hk h => by
          rcases Nat.lt_or_ge k j with h3 | h3
          · exact hall2 k hk h3
          · obtain rfl : k = j := by omega
            exact hx⟩
        have hfalse2 : okL l[j] = false → l.all okL = false := all_false hj
        obtain ⟨c, hcc⟩ : ∃ c, l[j] = c := ⟨_, rfl⟩
        rw [hcc] at hstep2 hfalse2
        cases hc1 : okB c
        · by_cases hc3 : (c.toNat : Int) = 45
          · have ha45 : PCall Tryz.prog 95 [.int .u8 45] (.bool false) := alnum_call 45
            repeat' (first | ((first | refine Yl rfl fun K9 h9 => ?_ | (refine Ym ?_ ?_; (focus (simp [hcc, hc1, hc3]; done)); intro K9 h9)); simp (disch := (first | (simp; done) | omega | (simp; omega))) [hcc, hc1, hc3]; (try simp (disch := (first | omega | (simp; omega))) only [X7]); ((first | refine acall_pure (ha45) (by simp) ?_ | skip) <;> ((repeat (refine Yz ?_)); (first | refine h9 _ _ (Yp ?_)); clear h9 K9))) | refine Yo ?_ | (refine Y8 fun K hK => ?_) | refine Yq ?_ | (apply hK; clear hK K) | refine Ya ?_ | (refine Yb rfl (fun hcnd => ?_) (fun hcnd => ?_) <;> (try simp at hcnd) <;> (try contradiction) <;> (try (exfalso; omega))) | refine Yc ?_ | (refine Yd ?_; simp only [X0, Nat.reduceBEq]) | (refine Ye ?_; refine Yf ?_) | (refine Yn ?_ ?_; (focus (simp [hcc, hc1, hc3]; done)); refine Yp ?_) | refine Yg ?_ | (simp only [X0, Nat.reduceBEq]) | clear hK K)
            have : c = 45 := u45.1 hc3
            refine hL2 (j + 1) _ _ (hstep2 (by simp [okL, this])) (by omega) ?_
            exact Yr [] (by simp [rowsOver])
          · repeat' (first | ((first | refine Yl rfl fun K9 h9 => ?_ | (refine Ym ?_ ?_; (focus (simp [hcc, hc1, hc3]; done)); intro K9 h9)); simp (disch := (first | (simp; done) | omega | (simp; omega))) [hcc, hc1, hc3]; (try simp (disch := (first | omega | (simp; omega))) only [X7]); ((first | refine acall_pure (alnum_call c) (by simp) ?_ | skip) <;> ((repeat (refine Yz ?_)); (first | refine h9 _ _ (Yp ?_)); clear h9 K9))) | refine Yo ?_ | (refine Y8 fun K hK => ?_) | refine Yq ?_ | (apply hK; clear hK K) | refine Ya ?_ | (refine Yb rfl (fun hcnd => ?_) (fun hcnd => ?_) <;> (try simp at hcnd) <;> (try contradiction) <;> (try (exfalso; omega))) | refine Yc ?_ | (refine Yd ?_; simp only [X0, Nat.reduceBEq]) | (refine Ye ?_; refine Yf ?_) | (refine Yn ?_ ?_; (focus (simp [hcc, hc1, hc3]; done)); refine Yp ?_) | refine Yg ?_ | (simp only [X0, Nat.reduceBEq]) | clear hK K)
            have hne : ¬ c = 45 := fun e => hc3 (u45.2 e)
            rw [hfalse (hfalse2 (by simp [okL, hc1, hne]))]
            exact .pure .bool
        · repeat' (first | ((first | refine Yl rfl fun K9 h9 => ?_ | (refine Ym ?_ ?_; (focus (simp [hcc, hc1]; done)); intro K9 h9)); simp (disch := (first | (simp; done) | omega | (simp; omega))) [hcc, hc1]; (try simp (disch := (first | omega | (simp; omega))) only [X7]); ((first | refine acall_pure (alnum_call c) (by simp) ?_ | skip) <;> ((repeat (refine Yz ?_)); (first | refine h9 _ _ (Yp ?_)); clear h9 K9))) | refine Yo ?_ | (refine Y8 fun K hK => ?_) | refine Yq ?_ | (apply hK; clear hK K) | refine Ya ?_ | (refine Yb rfl (fun hcnd => ?_) (fun hcnd => ?_) <;> (try simp at hcnd) <;> (try contradiction) <;> (try (exfalso; omega))) | refine Yc ?_ | (refine Yd ?_; simp only [X0, Nat.reduceBEq]) | (refine Ye ?_; refine Yf ?_) | (refine Yn ?_ ?_; (focus (simp [hcc, hc1]; done)); refine Yp ?_) | refine Yg ?_ | (simp only [X0, Nat.reduceBEq]) | clear hK K)
          refine hL2 (j + 1) _ _ (hstep2 (by simp [okL, hc1])) (by omega) ?_
          exact Yr [] (by simp [rowsOver])
      · repeat' (first | ((first | refine Yl rfl fun K9 h9 => ?_ | (refine Ym ?_ ?_; (focus (simp; done)); intro K9 h9)); simp (disch := (first | (simp; done) | omega | (simp; omega))); (try simp (disch := (first | omega | (simp; omega))) only [X7]); ((repeat (refine Yz ?_)); (first | refine h9 _ _ (Yp ?_)); clear h9 K9)) | refine Yo ?_ | (refine Y8 fun K hK => ?_) | refine Yq ?_ | (apply hK; clear hK K) | refine Ya ?_ | (refine Yb rfl (fun hcnd => ?_) (fun hcnd => ?_) <;> (try simp at hcnd) <;> (try contradiction) <;> (try (exfalso; omega))) | refine Yc ?_ | (refine Yd ?_; simp only [X0, Nat.reduceBEq]) | (refine Ye ?_; refine Yf ?_) | (refine Yn ?_ ?_; (focus (simp; done)); refine Yp ?_) | refine Yg ?_ | (simp only [X0, Nat.reduceBEq]) | clear hK K)
        refine hL (i + 1) _ _ (hstep (all_true fun k hk => hall2 k hk (by omega))) (by omega) ?_
        exact Yr [] (by simp [rowsOver])
    · repeat' (first | ((first | refine Yl rfl fun K9 h9 => ?_ | (refine Ym ?_ ?_; (focus (simp; done)); intro K9 h9)); simp (disch := (first | (simp; done) | omega | (simp; omega))); (try simp (disch := (first | omega | (simp; omega))) only [X7]); ((repeat (refine Yz ?_)); (first | refine h9 _ _ (Yp ?_)); clear h9 K9)) | refine Yo ?_ | (refine Y8 fun K hK => ?_) | refine Yq ?_ | (apply hK; clear hK K) | refine Ya ?_ | (refine Yb rfl (fun hcnd => ?_) (fun hcnd => ?_) <;> (try simp at hcnd) <;> (try contradiction) <;> (try (exfalso; omega))) | refine Yc ?_ | (refine Yd ?_; simp only [X0, Nat.reduceBEq]) | (refine Ye ?_; refine Yf ?_) | (refine Yn ?_ ?_; (focus (simp; done)); refine Yp ?_) | refine Yg ?_ | (simp only [X0, Nat.reduceBEq]) | clear hK K)
      rw [allL_true fun j hj => hall j hj (by omega)]
      exact .pure .bool
  · exact .bool
end Go.Proofs.YtcfmanhblonjeaaGreat.Ho
namespace Go.Proofs.YtcfmanhblonjeaaGreat.Ho
open Go.VS Go.Hst
set_option linter.all false
set_option maxRecDepth 100000
attribute [local irreducible] arun arunD arunU AWp aend
/-! ### Plain -/
theorem dns_parts {s : List UInt8} (h : dnsB s = true) : s.length ≤ 128 ∧ ∀ p ∈ splitC 46 s, labelB p = true := by
  simp only [dnsB, Bool.and_eq_true, decide_eq_true_eq, List.all_eq_true] at h
  exact h
theorem label_parts {l : List UInt8} (h : labelB l = true) : l ≠ [] ∧ ∀ c ∈ l, okL c = true := by
  simp only [labelB, Bool.and_eq_true, decide_eq_true_eq, List.all_eq_true] at h
  exact ⟨fun e => by subst e; simp at h, h.2.2.2.2⟩
theorem dns_chars {s : List UInt8} (h : dnsB s = true) : ∀ x ∈ s, x = 46 ∨ okL x = true := by
  intro x hx
  rcases splitC_mem 46 s x hx with h1 | ⟨p, h1, h2⟩
  · exact .inl h1
  · exact .inr ((label_parts ((dns_parts h).2 p h1)).2 x h2)
theorem dns_nil : dnsB [] = false := rfl
theorem dns_dot (l : List UInt8) : dnsB (46 :: l) = false := by
  cases h : dnsB (46 :: l) with
  | false => rfl
  | true =>
    have := (dns_parts h).2 [] (by simp [splitC])
    exact absurd this (by decide)
theorem dns_bad {s : List UInt8} (c : UInt8) (h1 : c ≠ 46) (h2 : okL c = false) (hm : c ∈ s) : dnsB s = false := by
  cases h : dnsB s with
  | false => rfl
  | true =>
    rcases dns_chars h c hm with h3 | h3
    · exact absurd h3 h1
    · rw [h2] at h3; cases h3
theorem dns_star (l : List UInt8) : dnsB (42 :: l) = false := dns_bad 42 (by decide) (by decide) (by simp)

def baseB (b : List UInt8) : Bool := b == [] || dnsB b
def patS (s : List UInt8) : Bool := decide (s.length ≤ 128) && (dnsB (Lib.trimPrefix s [42, 46]) && decide (46 ∈ Lib.trimPrefix s [42, 46]))
def patB (s : List UInt8) : Bool := if Lib.hasPrefix s [42, 46] = true then patS s else dnsB s
theorem pre_iff {s : List UInt8} : Lib.hasPrefix s [42, 46] = true ↔ ∃ r, s = 42 :: 46 :: r := by
  unfold Lib.hasPrefix
  rw [List.isPrefixOf_iff_prefix]
  constructor
  · rintro ⟨r, rfl⟩; exact ⟨r, rfl⟩
  · rintro ⟨r, rfl⟩; exact ⟨r, rfl⟩
theorem pre_tail (r : List UInt8) : Lib.trimPrefix (42 :: 46 :: r) [42, 46] = r := by
  unfold Lib.trimPrefix
  rw [if_pos (pre_iff.2 ⟨r, rfl⟩)]
  rfl
def rpatB (s : List UInt8) : Bool := dnsB s || (decide (s.length ≤ 128) && (decide (2 < s.length) && (s.take 2 == [42, 46] && (dnsB (s.drop 2) && decide (2 < (splitC 46 s).length)))))
theorem rpat_eq (s : List UInt8) : rpatB s = patB s := by
  unfold rpatB patB
  by_cases hp : Lib.hasPrefix s [42, 46] = true
  · obtain ⟨r, rfl⟩ := pre_iff.1 hp
    rw [if_pos hp, patS, pre_tail, dns_star]
    simp only [Bool.false_or]
    congr 1
    have h2 : (List.take 2 (42 :: 46 :: r) == [42, 46]) = true := by simp
    have h3 : List.drop 2 (42 :: 46 :: r) = r := rfl
    rw [h2, h3, splitC_len]
    have h4 : (42 :: 46 :: r : List UInt8).count 46 = r.count 46 + 1 := by
      rw [List.count_cons_of_ne (by decide), List.count_cons_self]
    rw [h4]
    cases hd : dnsB r
    · simp
    · have hne : r ≠ [] := fun e => by subst e; simp [dns_nil] at hd
      have := List.length_pos_iff.2 hne
      have h5 : decide (2 < (42 :: 46 :: r : List UInt8).length) = true := by simp; omega
      rw [h5]
      simp only [Bool.true_and]
      by_cases hm : 46 ∈ r
      · have := List.count_pos_iff.2 hm
        simp [hm]
      · have := List.count_eq_zero.2 hm
        simp [hm, this]
  · rw [if_neg hp]
    have : (s.take 2 == [42, 46]) = false := by
      cases h : (s.take 2 == [42, 46]) with
      | false => rfl
      | true =>
        exfalso
        apply hp
        refine pre_iff.2 ⟨s.drop 2, ?_⟩
        have h := beq_iff_eq.1 h
        conv => lhs; rw [← List.take_append_drop 2 s, h]
        rfl
    rw [this]
    simp
def withinB (s b : List UInt8) : Bool := (s == [] || patB s) && (baseB b && (b == [] || (eqB s b || endB s (46 :: b))))
/-! ### Walks -/
theorem rbase_call (b : List UInt8) (hb : b.length ≤ 1000000) : PCall Tryz.prog 83 [.str b] (.bool (baseB b)) := by
  refine pcall_body Tryz.func83 rfl Tryz.call83 ?_ ?_
  rotate_left 1
  refine awp_slots (s' := (.str b : V) :: zJ 8) rfl ?_; dsimp only [zJ]
  by_cases h : b = []
  · subst h
    repeat' (first | ((first | refine Yl rfl fun K9 h9 => ?_ | (refine Ym ?_ ?_; (focus (simp; done)); intro K9 h9)); simp (disch := (first | (simp; done) | omega | (simp; omega))); (try simp (disch := (first | omega | (simp; omega))) only [X7]); ((repeat (refine Yz ?_)); (first | refine h9 _ _ (Yp ?_)); clear h9 K9)) | refine Yo ?_ | (refine Y8 fun K hK => ?_) | refine Yq ?_ | (apply hK; clear hK K) | (refine Ye ?_; refine Yf ?_) | (refine Yn ?_ ?_; (focus (simp; done)); refine Yp ?_) | refine Yg ?_ | (simp only [X0, Nat.reduceBEq]) | clear hK K)
    exact .pure .bool
  · have e : (b == []) = false := by simpa using h
    repeat' (first | ((first | refine Yl rfl fun K9 h9 => ?_ | (refine Ym ?_ ?_; (focus (simp [h, e]; done)); intro K9 h9)); simp (disch := (first | (simp; done) | omega | (simp; omega))) [h, e]; (try simp (disch := (first | omega | (simp; omega))) only [X7]); ((first | refine acall_pure (rdns_call b hb) (by simp) ?_ | skip) <;> ((repeat (refine Yz ?_)); (first | refine h9 _ _ (Yp ?_)); clear h9 K9))) | refine Yo ?_ | (refine Y8 fun K hK => ?_) | refine Yq ?_ | (apply hK; clear hK K) | (refine Ye ?_; refine Yf ?_) | (refine Yn ?_ ?_; (focus (simp [h, e]; done)); refine Yp ?_) | refine Yg ?_ | (simp only [X0, Nat.reduceBEq]) | clear hK K)
    rw [baseB, e]
    exact .pure .bool
  · exact .bool

theorem rpattern_call (s : List UInt8) (hs : s.length ≤ 1000000) : PCall Tryz.prog 82 [.str s] (.bool (patB s)) := by
  rw [← rpat_eq]
  refine pcall_body Tryz.func82 rfl Tryz.call82 ?_ ?_
  rotate_left 1
  refine awp_slots (s' := (.str s : V) :: zJ 30) rfl ?_; dsimp only [zJ]
  have hd1 := rdns_call s hs
  have hd2 := rdns_call (s.drop 2) (by simp; omega)
  have hsp := rsplit_call s 46 hs
  rw [show byteV 46 = .int .u8 46 from rfl] at hsp
  unfold rpatB
  cases h0 : dnsB s
  · by_cases h1 : (s.length : Int) ≤ 128
    · have h1' : decide (s.length ≤ 128) = true := by simp; omega
      rw [h1']
      by_cases h2 : (2 : Int) < s.length
      · have h2' : decide (2 < s.length) = true := by simp; omega
        rw [h2']
        cases h3 : (s.take 2 == [42, 46])
        · repeat' (first | ((first | refine Yl rfl fun K9 h9 => ?_ | (refine Ym ?_ ?_; (focus (simp [h0, h1, h2, h3]; done)); intro K9 h9)); simp (disch := (first | (simp; done) | omega | (simp; omega))) [h0, h1, h2, h3]; (try simp (disch := (first | omega | (simp; omega))) only [X7]); ((first | refine acall_pure (hd1) (by simp) ?_ | refine acall_pure (hd2) (by simp) ?_ | refine acall_pure (hsp) (by simp) ?_ | skip) <;> ((repeat (refine Yz ?_)); (first | refine h9 _ _ (Yp ?_)); clear h9 K9))) | refine Yo ?_ | (refine Y8 fun K hK => ?_) | refine Yq ?_ | (apply hK; clear hK K) | (refine Ye ?_; refine Yf ?_) | (refine Yn ?_ ?_; (focus (simp [h0, h1, h2, h3]; done)); refine Yp ?_) | refine Yg ?_ | (simp only [X0, Nat.reduceBEq]) | clear hK K)
          exact .pure .bool
        · cases h4 : dnsB (s.drop 2)
          · repeat' (first | ((first | refine Yl rfl fun K9 h9 => ?_ | (refine Ym ?_ ?_; (focus (simp [h0, h1, h2, h3, h4, List.take_of_length_le]; done)); intro K9 h9)); simp (disch := (first | (simp; done) | omega | (simp; omega))) [h0, h1, h2, h3, h4, List.take_of_length_le]; (try simp (disch := (first | omega | (simp; omega))) only [X7]); ((first | refine acall_pure (hd1) (by simp) ?_ | refine acall_pure (hd2) (by simp) ?_ | refine acall_pure (hsp) (by simp) ?_ | skip) <;> ((repeat (refine Yz ?_)); (first | refine h9 _ _ (Yp ?_)); clear h9 K9))) | refine Yo ?_ | (refine Y8 fun K hK => ?_) | refine Yq ?_ | (apply hK; clear hK K) | (refine Ye ?_; refine Yf ?_) | (refine Yn ?_ ?_; (focus (simp [h0, h1, h2, h3, h4, List.take_of_length_le]; done)); refine Yp ?_) | refine Yg ?_ | (simp only [X0, Nat.reduceBEq]) | clear hK K)
            exact .pure .bool
          · have hcast : decide ((2 : Int) < (splitC 46 s).length) = decide (2 < (splitC 46 s).length) := by simp; omega
            repeat' (first | ((first | refine Yl rfl fun K9 h9 => ?_ | (refine Ym ?_ ?_; (focus (simp [h0, h1, h2, h3, h4, hcast, List.take_of_length_le]; done)); intro K9 h9)); simp (disch := (first | (simp; done) | omega | (simp; omega))) [h0, h1, h2, h3, h4, hcast, List.take_of_length_le]; (try simp (disch := (first | omega | (simp; omega))) only [X7]); ((first | refine acall_pure (hd1) (by simp) ?_ | refine acall_pure (hd2) (by simp) ?_ | refine acall_pure (hsp) (by simp) ?_ | skip) <;> ((repeat (refine Yz ?_)); (first | refine h9 _ _ (Yp ?_)); clear h9 K9))) | refine Yo ?_ | (refine Y8 fun K hK => ?_) | refine Yq ?_ | (apply hK; clear hK K) | (refine Ye ?_; refine Yf ?_) | (refine Yn ?_ ?_; (focus (simp [h0, h1, h2, h3, h4, hcast, List.take_of_length_le]; done)); refine Yp ?_) | refine Yg ?_ | (simp only [X0, Nat.reduceBEq]) | clear hK K)
            exact .pure .bool
      · have h2' : decide (2 < s.length) = false := by simp; omega
        rw [h2']
        repeat' (first | ((first | refine Yl rfl fun K9 h9 => ?_ | (refine Ym ?_ ?_; (focus (simp [h0, h1, h2]; done)); intro K9 h9)); simp (disch := (first | (simp; done) | omega | (simp; omega))) [h0, h1, h2]; (try simp (disch := (first | omega | (simp; omega))) only [X7]); ((first | refine acall_pure (hd1) (by simp) ?_ | skip) <;> ((repeat (refine Yz ?_)); (first | refine h9 _ _ (Yp ?_)); clear h9 K9))) | refine Yo ?_ | (refine Y8 fun K hK => ?_) | refine Yq ?_ | (apply hK; clear hK K) | (refine Ye ?_; refine Yf ?_) | (refine Yn ?_ ?_; (focus (simp [h0, h1, h2]; done)); refine Yp ?_) | refine Yg ?_ | (simp only [X0, Nat.reduceBEq]) | clear hK K)
        exact .pure .bool
    · have h1' : decide (s.length ≤ 128) = false := by simp; omega
      rw [h1']
      repeat' (first | ((first | refine Yl rfl fun K9 h9 => ?_ | (refine Ym ?_ ?_; (focus (simp [h0, h1]; done)); intro K9 h9)); simp (disch := (first | (simp; done) | omega | (simp; omega))) [h0, h1]; (try simp (disch := (first | omega | (simp; omega))) only [X7]); ((first | refine acall_pure (hd1) (by simp) ?_ | skip) <;> ((repeat (refine Yz ?_)); (first | refine h9 _ _ (Yp ?_)); clear h9 K9))) | refine Yo ?_ | (refine Y8 fun K hK => ?_) | refine Yq ?_ | (apply hK; clear hK K) | (refine Ye ?_; refine Yf ?_) | (refine Yn ?_ ?_; (focus (simp [h0, h1]; done)); refine Yp ?_) | refine Yg ?_ | (simp only [X0, Nat.reduceBEq]) | clear hK K)
      exact .pure .bool
  · repeat' (first | ((first | refine Yl rfl fun K9 h9 => ?_ | (refine Ym ?_ ?_; (focus (simp [h0]; done)); intro K9 h9)); simp (disch := (first | (simp; done) | omega | (simp; omega))) [h0]; (try simp (disch := (first | omega | (simp; omega))) only [X7]); ((first | refine acall_pure (hd1) (by simp) ?_ | skip) <;> ((repeat (refine Yz ?_)); (first | refine h9 _ _ (Yp ?_)); clear h9 K9))) | refine Yo ?_ | (refine Y8 fun K hK => ?_) | refine Yq ?_ | (apply hK; clear hK K) | (refine Ye ?_; refine Yf ?_) | (refine Yn ?_ ?_; (focus (simp [h0]; done)); refine Yp ?_) | refine Yg ?_ | (simp only [X0, Nat.reduceBEq]) | clear hK K)
    exact .pure .bool
  · exact .bool
end Go.Proofs.YtcfmanhblonjeaaGreat.Ho
namespace Go.Proofs.YtcfmanhblonjeaaGreat.Ho
open Go.VS Go.Hst
set_option linter.all false
set_option maxRecDepth 100000
attribute [local irreducible] arun arunD arunU AWp aend
set_option maxHeartbeats 4000000
theorem rwithin_call (s b : List UInt8) (hs : s.length ≤ 1000000) (hb : b.length ≤ 900000) : PCall Tryz.prog 67 [.str s, .str b] (.bool (withinB s b)) := by
  refine pcall_body Tryz.func67 rfl Tryz.call67 ?_ ?_
  rotate_left 1
  refine awp_slots (s' := (.str s : V) :: (.str b : V) :: zJ 28) rfl ?_; dsimp only [zJ]
  have hc1 := rpattern_call s hs
  have hc2 := rbase_call b (by omega)
  have hc3 := alike_call s b (by omega) (by omega)
  have hc4   := rends_call s (46 :: b) (by omega) (by simp; omega)
  unfold withinB
  obtain ⟨o, ho⟩ : ∃ o, (s == [] || patB s) = o := ⟨_, rfl⟩
  have ho' : o = true → s = [] ∨ (s ≠ [] ∧ patB s = true) := by
    intro h; rw [h] at ho
    by_cases hs : s = []
    · exact .inl hs
    · refine .inr ⟨hs, ?_⟩
      simpa [hs] using ho
  rw [ho]
  cases o
  · have hn : s ≠ [] := fun e => by subst e; simp at ho
    have e : (s == []) = false := by simpa using hn
    have h1 : patB s = false := by simpa [hn] using ho
    rw [h1] at hc1
    repeat' (first | ((first | refine Yl rfl fun K9 h9 => ?_ | (refine Ym ?_ ?_; (focus (simp [hn, e, h1]; done)); intro K9 h9)); simp (disch := (first | (simp; done) | omega | (simp; omega))) [hn, e, h1]; (try simp (disch := (first | omega | (simp; omega))) only [X7]); ((first | refine acall_pure (hc1) (by simp) ?_ | skip) <;> ((repeat (refine Yz ?_)); (first | refine h9 _ _ (Yp ?_)); clear h9 K9))) | refine Yo ?_ | (refine Y8 fun K hK => ?_) | refine Yq ?_ | (apply hK; clear hK K) | (refine Ye ?_; refine Yf ?_) | (refine Yn ?_ ?_; (focus (simp [hn, e, h1]; done)); refine Yp ?_) | refine Yg ?_ | (simp only [X0, Nat.reduceBEq]) | clear hK K)
    exact .pure .bool
  have main : ∀ (e : (s == []) = true ∨ ((s == []) = false ∧ patB s = true)), True := fun _ => trivial
  rcases ho' rfl with h0 | ⟨h0, h1⟩
  · subst h0
    cases h2 : baseB b <;> rw [h2] at hc2
    · repeat' (first | ((first | refine Yl rfl fun K9 h9 => ?_ | (refine Ym ?_ ?_; (focus (simp [h2]; done)); intro K9 h9)); simp (disch := (first | (simp; done) | omega | (simp; omega))) [h2]; (try simp (disch := (first | omega | (simp; omega))) only [X7]); ((first | refine acall_pure (hc2) (by simp) ?_ | skip) <;> ((repeat (refine Yz ?_)); (first | refine h9 _ _ (Yp ?_)); clear h9 K9))) | refine Yo ?_ | (refine Y8 fun K hK => ?_) | refine Yq ?_ | (apply hK; clear hK K) | (refine Ye ?_; refine Yf ?_) | (refine Yn ?_ ?_; (focus (simp [h2]; done)); refine Yp ?_) | refine Yg ?_ | (simp only [X0, Nat.reduceBEq]) | clear hK K)
      exact .pure .bool
    by_cases h3 : b = []
    · subst h3
      repeat' (first | ((first | refine Yl rfl fun K9 h9 => ?_ | (refine Ym ?_ ?_; (focus (simp [h2]; done)); intro K9 h9)); simp (disch := (first | (simp; done) | omega | (simp; omega))) [h2]; (try simp (disch := (first | omega | (simp; omega))) only [X7]); ((first | refine acall_pure (hc2) (by simp) ?_ | skip) <;> ((repeat (refine Yz ?_)); (first | refine h9 _ _ (Yp ?_)); clear h9 K9))) | refine Yo ?_ | (refine Y8 fun K hK => ?_) | refine Yq ?_ | (apply hK; clear hK K) | (refine Ye ?_; refine Yf ?_) | (refine Yn ?_ ?_; (focus (simp [h2]; done)); refine Yp ?_) | refine Yg ?_ | (simp only [X0, Nat.reduceBEq]) | clear hK K)
      exact .pure .bool
    have e3 : (b == []) = false := by simpa using h3
    cases h4 : eqB [] b <;> rw [h4] at hc3
    · repeat' (first | ((first | refine Yl rfl fun K9 h9 => ?_ | (refine Ym ?_ ?_; (focus (simp [h2, h3, e3, h4]; done)); intro K9 h9)); simp (disch := (first | (simp; done) | omega | (simp; omega))) [h2, h3, e3, h4]; (try simp (disch := (first | omega | (simp; omega))) only [X7]); ((first | refine acall_pure (hc2) (by simp) ?_ | refine acall_pure (hc3) (by simp) ?_ | refine acall_pure (hc4) (by simp) ?_ | skip) <;> ((repeat (refine Yz ?_)); (first | refine h9 _ _ (Yp ?_)); clear h9 K9))) | refine Yo ?_ | (refine Y8 fun K hK => ?_) | refine Yq ?_ | (apply hK; clear hK K) | (refine Ye ?_; refine Yf ?_) | (refine Yn ?_ ?_; (focus (simp [h2, h3, e3, h4]; done)); refine Yp ?_) | refine Yg ?_ | (simp only [X0, Nat.reduceBEq]) | clear hK K)
      rw [e3]
      exact .pure .bool
    · repeat' (first | ((first | refine Yl rfl fun K9 h9 => ?_ | (refine Ym ?_ ?_; (focus (simp [h2, h3, e3, h4]; done)); intro K9 h9)); simp (disch := (first | (simp; done) | omega | (simp; omega))) [h2, h3, e3, h4]; (try simp (disch := (first | omega | (simp; omega))) only [X7]); ((first | refine acall_pure (hc2) (by simp) ?_ | refine acall_pure (hc3) (by simp) ?_ | refine acall_pure (hc4) (by simp) ?_ | skip) <;> ((repeat (refine Yz ?_)); (first | refine h9 _ _ (Yp ?_)); clear h9 K9))) | refine Yo ?_ | (refine Y8 fun K hK => ?_) | refine Yq ?_ | (apply hK; clear hK K) | (refine Ye ?_; refine Yf ?_) | (refine Yn ?_ ?_; (focus (simp [h2, h3, e3, h4]; done)); refine Yp ?_) | refine Yg ?_ | (simp only [X0, Nat.reduceBEq]) | clear hK K)
      rw [e3]
      exact .pure .bool
  · have e : (s == []) = false := by simpa using h0
    rw [h1] at hc1
    cases h2 : baseB b <;> rw [h2] at hc2
    · repeat' (first | ((first | refine Yl rfl fun K9 h9 => ?_ | (refine Ym ?_ ?_; (focus (simp [h0, e, h1, h2]; done)); intro K9 h9)); simp (disch := (first | (simp; done) | omega | (simp; omega))) [h0, e, h1, h2]; (try simp (disch := (first | omega | (simp; omega))) only [X7]); ((first | refine acall_pure (hc1) (by simp) ?_ | refine acall_pure (hc2) (by simp) ?_ | skip) <;> ((repeat (refine Yz ?_)); (first | refine h9 _ _ (Yp ?_)); clear h9 K9))) | refine Yo ?_ | (refine Y8 fun K hK => ?_) | refine Yq ?_ | (apply hK; clear hK K) | (refine Ye ?_; refine Yf ?_) | (refine Yn ?_ ?_; (focus (simp [h0, e, h1, h2]; done)); refine Yp ?_) | refine Yg ?_ | (simp only [X0, Nat.reduceBEq]) | clear hK K)
      exact .pure .bool
    by_cases h3 : b = []
    · subst h3
      repeat' (first | ((first | refine Yl rfl fun K9 h9 => ?_ | (refine Ym ?_ ?_; (focus (simp [h0, e, h1, h2]; done)); intro K9 h9)); simp (disch := (first | (simp; done) | omega | (simp; omega))) [h0, e, h1, h2]; (try simp (disch := (first | omega | (simp; omega))) only [X7]); ((first | refine acall_pure (hc1) (by simp) ?_ | refine acall_pure (hc2) (by simp) ?_ | skip) <;> ((repeat (refine Yz ?_)); (first | refine h9 _ _ (Yp ?_)); clear h9 K9))) | refine Yo ?_ | (refine Y8 fun K hK => ?_) | refine Yq ?_ | (apply hK; clear hK K) | (refine Ye ?_; refine Yf ?_) | (refine Yn ?_ ?_; (focus (simp [h0, e, h1, h2]; done)); refine Yp ?_) | refine Yg ?_ | (simp only [X0, Nat.reduceBEq]) | clear hK K)
      exact .pure .bool
    have e3 : (b == []) = false := by simpa using h3
    cases h4 : eqB s b <;> rw [h4] at hc3
    · repeat' (first | ((first | refine Yl rfl fun K9 h9 => ?_ | (refine Ym ?_ ?_; (focus (simp [h0, e, h1, h2, h3, e3, h4]; done)); intro K9 h9)); simp (disch := (first | (simp; done) | omega | (simp; omega))) [h0, e, h1, h2, h3, e3, h4]; (try simp (disch := (first | omega | (simp; omega))) only [X7]); ((first | refine acall_pure (hc1) (by simp) ?_ | refine acall_pure (hc2) (by simp) ?_ | refine acall_pure (hc3) (by simp) ?_ | refine acall_pure (hc4) (by simp) ?_ | skip) <;> ((repeat (refine Yz ?_)); (first | refine h9 _ _ (Yp ?_)); clear h9 K9))) | refine Yo ?_ | (refine Y8 fun K hK => ?_) | refine Yq ?_ | (apply hK; clear hK K) | (refine Ye ?_; refine Yf ?_) | (refine Yn ?_ ?_; (focus (simp [h0, e, h1, h2, h3, e3, h4]; done)); refine Yp ?_) | refine Yg ?_ | (simp only [X0, Nat.reduceBEq]) | clear hK K)
      rw [e3]
      exact .pure .bool
    · repeat' (first | ((first | refine Yl rfl fun K9 h9 => ?_ | (refine Ym ?_ ?_; (focus (simp [h0, e, h1, h2, h3, e3, h4]; done)); intro K9 h9)); simp (disch := (first | (simp; done) | omega | (simp; omega))) [h0, e, h1, h2, h3, e3, h4]; (try simp (disch := (first | omega | (simp; omega))) only [X7]); ((first | refine acall_pure (hc1) (by simp) ?_ | refine acall_pure (hc2) (by simp) ?_ | refine acall_pure (hc3) (by simp) ?_ | refine acall_pure (hc4) (by simp) ?_ | skip) <;> ((repeat (refine Yz ?_)); (first | refine h9 _ _ (Yp ?_)); clear h9 K9))) | refine Yo ?_ | (refine Y8 fun K hK => ?_) | refine Yq ?_ | (apply hK; clear hK K) | (refine Ye ?_; refine Yf ?_) | (refine Yn ?_ ?_; (focus (simp [h0, e, h1, h2, h3, e3, h4]; done)); refine Yp ?_) | refine Yg ?_ | (simp only [X0, Nat.reduceBEq]) | clear hK K)
      rw [e3]
      exact .pure .bool
  · exact .bool
end Go.Proofs.YtcfmanhblonjeaaGreat.Ho
