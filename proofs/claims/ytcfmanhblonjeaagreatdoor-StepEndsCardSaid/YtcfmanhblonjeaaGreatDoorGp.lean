/-
  HOST: texts cut at a byte, in plain Lean; the kit's words for them.
  HOST: the library's functions, by the kit's shelf.
  HOST: bytes and small letters.
  HOST: small letters, comparisons that ignore case.
  HOST: labels and DNS names.
  HOST: DNS names; Split.
  HOST: DNS names by the definition.
  HOST: patterns, bases, what matches and what lies within.
  HOST: DNSMatch, DNSWithin.
  Conditions: none.
-/
import Derived.Lib.SplitLaws
import Derived.Lib.Strings
import Derived.Test.YtcfmanhblonjeaaGreatDoorShelf
import Derived.Test.YtcfmanhblonjeaaGreatDoorTab
import Derived.Test.YtcfmanhblonjeaaGreatDoorGd
import Derived.Test.YtcfmanhblonjeaaGreatDoorVs30
import Derived.Test.YtcfmanhblonjeaaGreatDoorGi
set_option linter.all false
set_option linter.unusedSimpArgs false
set_option linter.unusedVariables false
namespace Go.Hst

abbrev Bs := List UInt8
def lowB (c : UInt8) : UInt8 := if 65 ≤ c.toNat ∧ c.toNat ≤ 90 then UInt8.ofNat (c.toNat + 32) else c
def low (s : Bs) : Bs := s.map lowB
def okB (c : UInt8) : Bool := (97 ≤ c.toNat && c.toNat ≤ 122) || (65 ≤ c.toNat && c.toNat ≤ 90) || (48 ≤ c.toNat && c.toNat ≤ 57)

def splitC (c : UInt8) : Bs → List Bs
  | [] => [[]]
  | b :: l => if b = c then [] :: splitC c l else match splitC c l with
    | [] => [[b]]
    | x :: xs => (b :: x) :: xs
def befC (c : UInt8) (s : Bs) : Bs := s.takeWhile (· != c)
def aftC (c : UInt8) (s : Bs) : Bs := (s.dropWhile (· != c)).drop 1

theorem splitC_ne (c : UInt8) : ∀ s, splitC c s ≠ []
  | [] => by simp [splitC]
  | b :: l => by
    unfold splitC
    split
    · simp
    · split <;> simp

theorem splitC_not (c : UInt8) : ∀ s : Bs, c ∉ s → splitC c s = [s]
  | [], _ => rfl
  | b :: l, h => by
    simp only [List.mem_cons, not_or] at h
    unfold splitC
    rw [if_neg (fun e => h.1 e.symm), splitC_not c l h.2]

theorem splitC_hit (c : UInt8) : ∀ a b : Bs, c ∉ a → splitC c (a ++ c :: b) = a :: splitC c b
  | [], b, _ => by simp [splitC]
  | x :: a, b, h => by
    simp only [List.mem_cons, not_or] at h
    rw [List.cons_append, splitC, if_neg (fun e => h.1 e.symm), splitC_hit c a b h.2]

theorem splitC_len (c : UInt8) : ∀ s : Bs, (splitC c s).length = s.count c + 1
  | [] => rfl
  | b :: l => by
    have ih := splitC_len c l
    unfold splitC
    split
    · rename_i h; subst h; simp [ih]
    · rename_i h
      rw [List.count_cons_of_ne h]
      split
      · rename_i h2; exact absurd h2 (splitC_ne c l)
      · rename_i x xs h2; rw [h2] at ih; simpa using ih

theorem splitC_mem (c : UInt8) : ∀ (s : Bs) (x : UInt8), x ∈ s → x = c ∨ ∃ p ∈ splitC c s, x ∈ p
  | [], x, h => by simp at h
  | b :: l, x, h => by
    unfold splitC
    split
    · rename_i hb
      rcases List.mem_cons.1 h with rfl | h
      · exact .inl hb
      · rcases splitC_mem c l x h with h | ⟨p, h1, h2⟩
        · exact .inl h
        · exact .inr ⟨p, by simp [h1], h2⟩
    · split
      · rename_i h2; exact absurd h2 (splitC_ne c l)
      · rename_i y ys h2
        rcases List.mem_cons.1 h with rfl | h
        · exact .inr ⟨x :: y, by simp, by simp⟩
        · rcases splitC_mem c l x h with h | ⟨p, h1, h3⟩
          · exact .inl h
          · rw [h2] at h1
            rcases List.mem_cons.1 h1 with rfl | h1
            · exact .inr ⟨b :: p, by simp, by simp [h3]⟩
            · exact .inr ⟨p, by simp [h1], h3⟩

theorem splitC_piece (c : UInt8) : ∀ (s : Bs), ∀ p ∈ splitC c s, c ∉ p ∧ p.length ≤ s.length
  | [], p, h => by simp [splitC] at h; subst h; simp
  | b :: l, p, h => by
    unfold splitC at h
    split at h
    · rcases List.mem_cons.1 h with rfl | h
      · simp
      · have := splitC_piece c l p h; simp; exact ⟨this.1, by omega⟩
    · rename_i hb
      split at h
      · rename_i h2; exact absurd h2 (splitC_ne c l)
      · rename_i y ys h2
        rcases List.mem_cons.1 h with rfl | h
        · have := splitC_piece c l y (by rw [h2]; simp)
          simp only [List.mem_cons, not_or, List.length_cons]
          exact ⟨⟨fun e => hb e.symm, this.1⟩, by omega⟩
        · have := splitC_piece c l p (by rw [h2]; simp [h])
          simp; exact ⟨this.1, by omega⟩


theorem pre1 (c b : UInt8) (l : Bs) : [c].isPrefixOf (b :: l) = (c == b) := by simp [List.isPrefixOf]

theorem index_one (c : UInt8) : ∀ s : Bs, Lib.index s [c] = if c ∈ s then ((befC c s).length : Int) else -1
  | [] => by simp [Lib.index]
  | b :: l => by
    unfold Lib.index
    rw [pre1, index_one c l]
    by_cases hb : c = b
    · subst hb; simp [befC]
    · have h1 : (c == b) = false := by simpa using hb
      have h2 : (b != c) = true := by simp; exact fun e => hb e.symm
      rw [h1]
      by_cases hm : c ∈ l
      · have : ¬ ((((befC c l).length : Int)) == -1) = true := by simp
        simp only [hm, if_true, List.mem_cons, or_true, Bool.false_eq_true, if_false]
        rw [if_neg this]
        simp [befC, List.takeWhile_cons, h2]
      · simp [hm, hb]

theorem bef_aft (c : UInt8) : ∀ s : Bs, c ∈ s → s = befC c s ++ c :: aftC c s
  | [], h => by simp at h
  | b :: l, h => by
    by_cases hb : b = c
    · subst hb; simp [befC, aftC]
    · have h2 : (b != c) = true := by simpa using hb
      have := bef_aft c l (by rcases List.mem_cons.1 h with h | h; exact absurd h.symm hb; exact h)
      simp only [befC, aftC, List.takeWhile_cons, List.dropWhile_cons, h2, if_true, List.cons_append] at this ⊢
      rw [← this]
theorem bef_not (c : UInt8) : ∀ s : Bs, c ∉ befC c s
  | [] => by simp [befC]
  | b :: l => by
    have ih := bef_not c l
    unfold befC at ih ⊢
    rw [List.takeWhile_cons]
    by_cases hb : b = c
    · subst hb; simp
    · rw [if_pos (by simpa using hb)]
      simp only [List.mem_cons, not_or]
      exact ⟨fun e => hb e.symm, ih⟩
theorem bef_all (c : UInt8) : ∀ (s : Bs), c ∉ s → befC c s = s
  | [], _ => rfl
  | b :: l, h => by
    simp only [List.mem_cons, not_or] at h
    have h2 : (b != c) = true := by simp; exact fun e => h.1 e.symm
    have := bef_all c l h.2
    simp only [befC, List.takeWhile_cons, h2, if_true] at this ⊢
    rw [this]
theorem aft_none (c : UInt8) : ∀ (s : Bs), c ∉ s → aftC c s = []
  | [], _ => rfl
  | b :: l, h => by
    simp only [List.mem_cons, not_or] at h
    have h2 : (b != c) = true := by simp; exact fun e => h.1 e.symm
    have := aft_none c l h.2
    simp only [aftC, List.dropWhile_cons, h2, if_true] at this ⊢
    rw [this]
theorem bef_len (c : UInt8) (s : Bs) : (befC c s).length ≤ s.length := (List.takeWhile_prefix _).length_le
theorem aft_len (c : UInt8) (s : Bs) : (aftC c s).length ≤ s.length := by
  unfold aftC
  rw [List.length_drop]
  have := (List.dropWhile_suffix (l := s) (· != c)).length_le
  omega

theorem take_app {s a b : Bs} {c : UInt8} (h : s = a ++ c :: b) : s.take a.length = a := by rw [h]; simp
theorem drop_app {s a b : Bs} {c : UInt8} (h : s = a ++ c :: b) : s.drop (a.length + 1) = b := by rw [h, List.drop_append]; simp
theorem contains_one (c : UInt8) (s : Bs) : Lib.contains s [c] = decide (c ∈ s) := by
  unfold Lib.contains
  rw [index_one]
  by_cases h : c ∈ s <;> simp [h]

theorem cut_one (c : UInt8) (s : Bs) : Lib.cut s [c] = (befC c s, aftC c s, decide (c ∈ s)) := by
  unfold Lib.cut
  rw [index_one]
  by_cases h : c ∈ s
  · have hs := bef_aft c s h
    simp only [h, if_true]
    rw [if_pos (by omega)]
    simp only [Int.toNat_natCast, List.length_singleton, decide_true, Prod.mk.injEq, and_true]
    constructor
    · exact take_app hs
    · exact drop_app hs
  · simp [h, bef_all c s h, aft_none c s h]

theorem splitK_one (c : UInt8) : ∀ (k : Nat) (s : Bs), s.count c = k → Lib.splitK [c] 0 k s = splitC c s
  | 0, s, h => by
    rw [splitC_not c s (List.count_eq_zero.1 h)]; rfl
  | k + 1, s, h => by
    have hm : c ∈ s := List.count_pos_iff.1 (by omega)
    have hs := bef_aft c s hm
    have hcount : (aftC c s).count c = k := by
      rw [hs, List.count_append, List.count_eq_zero.2 (bef_not c s), List.count_cons_self] at h
      omega
    unfold Lib.splitK
    rw [index_one, if_pos hm, if_neg (by simp)]
    conv => rhs; rw [hs, splitC_hit c _ _ (bef_not c s)]
    simp only [Int.toNat_natCast, Nat.add_zero, List.length_singleton]
    congr 1
    · exact take_app hs
    · rw [drop_app hs, splitK_one c k _ hcount]

theorem indexByte_ge (c : UInt8) : ∀ s : Bs, -1 ≤ Lib.indexByte s c
  | [] => by simp [Lib.indexByte]
  | a :: t => by
    have ih := indexByte_ge c t
    unfold Lib.indexByte
    split
    · decide
    · split <;> omega

theorem indexByte_in (c : UInt8) : ∀ s : Bs, (0 ≤ Lib.indexByte s c) ↔ c ∈ s
  | [] => by simp [Lib.indexByte]
  | b :: l => by
    have ih := indexByte_in c l
    have hg := indexByte_ge c l
    unfold Lib.indexByte
    by_cases hb : b = c
    · subst hb; simp
    · have h1 : (b == c) = false := by simpa using hb
      have h3 : c ≠ b := fun e => hb e.symm
      rw [h1]
      simp only [Bool.false_eq_true, if_false, List.mem_cons, h3, false_or]
      by_cases hm : c ∈ l
      · have h0 := ih.2 hm
        rw [if_neg (by simp; omega)]
        simp only [hm, iff_true]; omega
      · have h0 : ¬ 0 ≤ Lib.indexByte l c := fun h => hm (ih.1 h)
        have : Lib.indexByte l c = -1 := by omega
        simp [hm, this]

end Go.Hst
namespace Go.Proofs.YtcfmanhblonjeaaGreatDoor.Ho
open Go.VS Go.Hst
set_option linter.all false
set_option maxRecDepth 100000

theorem rds_two {w : World} {ro : Nat → Prop} {ρ : Rho} {vs : Array Value} {s t : List UInt8} (h : Rds w ro ρ vs.toList [.str s, .str t]) : vs = #[.string ⟨s.toArray⟩, .string ⟨t.toArray⟩] := by
  obtain ⟨l⟩ := vs
  match l, h with
  | [a, b], h =>
    have h1 := h.2 0 a _ rfl rfl
    have h2 := h.2 1 b _ rfl rfl
    cases h1; cases h2; rfl
  | [], h => simp [Rds] at h
  | [_], h => simp [Rds] at h
  | _ :: _ :: _ :: _, h => simp [Rds] at h
theorem rds_sb {w : World} {ro : Nat → Prop} {ρ : Rho} {vs : Array Value} {s : List UInt8} {c : UInt8} (h : Rds w ro ρ vs.toList [.str s, byteV c]) : vs = #[.string ⟨s.toArray⟩, .int .u8 c.toNat] := by
  obtain ⟨l⟩ := vs
  match l, h with
  | [a, b], h =>
    have h1 := h.2 0 a _ rfl rfl
    have h2 := h.2 1 b _ rfl rfl
    unfold byteV at h2
    cases h1; cases h2; rfl
  | [], h => simp [Rds] at h
  | [_], h => simp [Rds] at h
  | _ :: _ :: _ :: _, h => simp [Rds] at h
theorem maxlen : Tryz.prog.globalNamed "internal/bytealg.MaxLen" = some 0 := by kernel_rfl
theorem same_self (w : World) : w.os = w.os ∧ w.tape = w.tape ∧ w.output = w.output ∧ w.heap = w.heap := ⟨rfl, rfl, rfl, rfl⟩

theorem indexByte_call (s : List UInt8) (c : UInt8) : PCall Tryz.prog 126 [.str s, byteV c] (.int .i64 (Lib.indexByte s c)) := by
  refine pcall_same Tryz.call126 (by simp) fun w ro ρ vs _ ha => ?_
  rw [rds_sb ha]
  refine (Tryz.strings_IndexByte ⟨s.toArray⟩ c.toNat w).mono ?_
  rintro e w' ⟨rfl, rfl⟩
  refine ⟨same_self _, _, rfl, fun ro ρ => ?_⟩
  have : (c.toNat : Int).toNat.toUInt8 = c := by simp
  rw [this]
  exact .int
theorem cutPrefix_call (s p : List UInt8) : PCall Tryz.prog 73 [.str s, .str p] (.tup [.str (Lib.trimPrefix s p), .bool (Lib.hasPrefix s p)]) := by
  refine pcall_same Tryz.call73 (by simp) fun w ro ρ vs _ ha => ?_
  rw [rds_two ha]
  refine (Tryz.strings_CutPrefix ⟨s.toArray⟩ ⟨p.toArray⟩ w).mono ?_
  rintro e w' ⟨rfl, rfl⟩
  refine ⟨same_self _, _, rfl, fun ro ρ => .tup rfl fun i u x hu hx => ?_⟩
  match i, hu, hx with
  | 0, hu, hx => simp at hu hx; subst hu; subst hx; exact .str
  | 1, hu, hx => simp at hu hx; subst hu; subst hx; exact .bool
  | i + 2, hu, hx => simp at hx
theorem contains_call (s p : List UInt8) (hs : s.length ≤ 4294967280) : PCall Tryz.prog 98 [.str s, .str p] (.bool (Lib.contains s p)) := by
  refine pcall_same Tryz.call98 (by simp) fun w ro ρ vs go ha => ?_
  rw [rds_two ha]
  obtain ⟨-, m, hm⟩ := go 0 maxlen
  refine (Tryz.strings_Contains ⟨s.toArray⟩ ⟨p.toArray⟩ m w (by show s.toArray.size < _; simp; omega) hm).mono ?_
  rintro e w' ⟨rfl, rfl⟩
  exact ⟨same_self _, _, rfl, fun ro ρ => .bool⟩
theorem cut_call (s : List UInt8) (c : UInt8) (hs : s.length ≤ 4294967280) : PCall Tryz.prog 74 [.str s, .str [c]] (.tup [.str (befC c s), .str (aftC c s), .bool (decide (c ∈ s))]) := by
  refine pcall_same Tryz.call74 (by simp) fun w ro ρ vs go ha => ?_
  rw [rds_two ha]
  obtain ⟨-, m, hm⟩ := go 0 maxlen
  refine (Tryz.strings_Cut ⟨s.toArray⟩ ⟨[c].toArray⟩ m w (by show s.toArray.size < _; simp; omega) hm).mono ?_
  rintro e w' ⟨rfl, n, rfl⟩
  refine ⟨⟨rfl, rfl, rfl, rfl⟩, _, rfl, fun ro ρ => .tup rfl fun i u x hu hx => ?_⟩
  simp only [cut_one] at hu
  match i, hu, hx with
  | 0, hu, hx => simp at hu hx; subst hu; subst hx; exact .str
  | 1, hu, hx => simp at hu hx; subst hu; subst hx; exact .str
  | 2, hu, hx => simp at hu hx; subst hu; subst hx; exact .bool
  | i + 3, hu, hx => simp at hx
theorem split_call (s : List UInt8) (c : UInt8) (hs : s.length ≤ 4294967280) : PCall Tryz.prog 99 [.str s, .str [c]] (.sl (splitC c s).length ((splitC c s).map V.str)) := by
  refine pcall_block Tryz.call99 (by simp [pure_sl]) fun w ro ρ vs go ha => ?_
  rw [rds_two ha]
  obtain ⟨-, m, hm⟩ := go 0 maxlen
  refine (Tryz.strings_Split ⟨s.toArray⟩ ⟨[c].toArray⟩ m w (by show s.toArray.size < _; simp; omega) hm (Nat.le_refl 1)).mono ?_
  rintro e w' ⟨rfl, rfl⟩
  have hcnt : Lib.countB ⟨s.toArray⟩ ⟨[c].toArray⟩ = s.count c := Lib.count_one c s
  have hB : (Lib.splitB ⟨[c].toArray⟩ 0 (s.count c) ⟨s.toArray⟩).map (·.data.toList) = splitC c s := by
    rw [Lib.splitB_data]
    exact splitK_one c _ s rfl
  refine ⟨⟨_, rfl⟩, _, rfl, fun ro' ρ hro => ?_⟩
  rw [hcnt]
  have hl : (Lib.splitB ⟨[c].toArray⟩ 0 (s.count c) ⟨s.toArray⟩).length = (splitC c s).length := by rw [← hB]; simp
  rw [show s.count c + 1 = (splitC c s).length from (splitC_len c s).symm]
  refine .sl (us := (Lib.splitB ⟨[c].toArray⟩ 0 (s.count c) ⟨s.toArray⟩).map Value.string) rfl hro (Nat.le_refl _) (by simp [hl]) (fun i u hu => ?_) fun i u x hu hx => ?_
  · show (w.alloc _).cell? _ = _
    simp only [World.cell?, World.alloc, Array.getElem?_push_size]
    rw [Nat.zero_add]
    simpa using hu
  · rw [← hB, List.map_map] at hx
    simp only [List.getElem?_map] at hu hx
    cases hb : (Lib.splitB ⟨[c].toArray⟩ 0 (s.count c) ⟨s.toArray⟩)[i]? with
    | none => rw [hb] at hu; simp at hu
    | some b =>
      rw [hb] at hu hx
      simp at hu hx
      subst hu; subst hx
      exact .str
end Go.Proofs.YtcfmanhblonjeaaGreatDoor.Ho
namespace Go.Proofs.YtcfmanhblonjeaaGreatDoor.Ho
open Go.VS Go.Hst
set_option linter.all false
set_option maxRecDepth 100000
attribute [local irreducible] arun arunD arunU AWp aend
theorem bytes_full {l : List UInt8} {n : Nat} (h : l.length ≤ n) : List.take n (l.map byteV) = l.map byteV := List.take_of_length_le (by simpa using h)
def letB (c : UInt8) : Bool := (97 ≤ c.toNat && c.toNat ≤ 122) || (65 ≤ c.toNat && c.toNat ≤ 90)
def digB (c : UInt8) : Bool := 48 ≤ c.toNat && c.toNat ≤ 57
theorem okB_eq (c : UInt8) : okB c = (letB c || digB c) := rfl

theorem letter_call (c : UInt8) : PCall Tryz.prog 122 [byteV c] (.bool (letB c)) := by
  refine pcall_body Tryz.func122 rfl Tryz.call122 ?_ ?_
  rotate_left 1
  refine awp_slots (s' := (byteV c : V) :: zJ 16) rfl ?_; dsimp only [zJ]
  have hc : c.toNat < 256 := UInt8.toNat_lt _
  simp only [byteV]
  by_cases a1 : (97 : Int) ≤ c.toNat <;> by_cases a2 : (c.toNat : Int) ≤ 122 <;> by_cases a3 : (65 : Int) ≤ c.toNat <;> by_cases a4 : (c.toNat : Int) ≤ 90 <;> (try (exfalso; omega)) <;> (
  repeat' (first | ((first | refine Yl rfl fun K9 h9 => ?_ | (refine Ym ?_ ?_; (focus (simp [a1, a2, a3, a4]; done)); intro K9 h9)); simp (disch := first | exact dd | fail) [a1, a2, a3, a4]; (try simp (disch := first | exact de | fail) only [X7]); ((repeat (refine Yz ?_)); (first | refine h9 _ _ (Yp ?_)); clear h9 K9)) | refine Yo ?_ | (refine Y8 fun K hK => ?_) | refine Yq ?_ | (apply hK; clear hK K) | (refine Ye ?_; refine Yf ?_) | (refine Yn ?_ ?_; (focus (simp [a1, a2, a3, a4]; done)); refine Yp ?_) | refine Yg ?_ | (simp only [X0, Nat.reduceBEq]) | clear hK K)
  have b1 : decide (97 ≤ c.toNat) = decide ((97 : Int) ≤ c.toNat) := by simp; omega
  have b2 : decide (c.toNat ≤ 122) = decide ((c.toNat : Int) ≤ 122) := by simp; omega
  have b3 : decide (65 ≤ c.toNat) = decide ((65 : Int) ≤ c.toNat) := by simp; omega
  have b4 : decide (c.toNat ≤ 90) = decide ((c.toNat : Int) ≤ 90) := by simp; omega
  simp [letB, b1, b2, b3, b4, a1, a2, a3, a4]
  exact .pure .bool)
  · exact .bool

theorem digit_call (c : UInt8) : PCall Tryz.prog 123 [byteV c] (.bool (digB c)) := by
  refine pcall_body Tryz.func123 rfl Tryz.call123 ?_ ?_
  rotate_left 1
  refine awp_slots (s' := (byteV c : V) :: zJ 8) rfl ?_; dsimp only [zJ]
  have hc : c.toNat < 256 := UInt8.toNat_lt _
  simp only [byteV]
  by_cases a1 : (48 : Int) ≤ c.toNat <;> by_cases a2 : (c.toNat : Int) ≤ 57 <;> (try (exfalso; omega)) <;> (
  repeat' (first | ((first | refine Yl rfl fun K9 h9 => ?_ | (refine Ym ?_ ?_; (focus (simp [a1, a2]; done)); intro K9 h9)); simp (disch := first | exact dd | fail) [a1, a2]; (try simp (disch := first | exact de | fail) only [X7]); ((repeat (refine Yz ?_)); (first | refine h9 _ _ (Yp ?_)); clear h9 K9)) | refine Yo ?_ | (refine Y8 fun K hK => ?_) | refine Yq ?_ | (apply hK; clear hK K) | (refine Ye ?_; refine Yf ?_) | (refine Yn ?_ ?_; (focus (simp [a1, a2]; done)); refine Yp ?_) | refine Yg ?_ | (simp only [X0, Nat.reduceBEq]) | clear hK K)
  have b1 : decide (48 ≤ c.toNat) = decide ((48 : Int) ≤ c.toNat) := by simp; omega
  have b2 : decide (c.toNat ≤ 57) = decide ((c.toNat : Int) ≤ 57) := by simp; omega
  simp [digB, b1, b2, a1, a2]
  exact .pure .bool)
  · exact .bool

theorem alnum_call (c : UInt8) : PCall Tryz.prog 106 [byteV c] (.bool (okB c)) := by
  refine pcall_body Tryz.func106 rfl Tryz.call106 ?_ ?_
  rotate_left 1
  refine awp_slots (s' := (byteV c : V) :: zJ 24) rfl ?_; dsimp only [zJ]
  have hc : c.toNat < 256 := UInt8.toNat_lt _
  simp only [byteV]
  by_cases a3 : (65 : Int) ≤ c.toNat <;> by_cases a4 : (c.toNat : Int) ≤ 90 <;> by_cases a1 : (97 : Int) ≤ c.toNat <;> by_cases a2 : (c.toNat : Int) ≤ 122 <;> by_cases a5 : (48 : Int) ≤ c.toNat <;> by_cases a6 : (c.toNat : Int) ≤ 57 <;> (try (exfalso; omega)) <;> (
  repeat' (first | ((first | refine Yl rfl fun K9 h9 => ?_ | (refine Ym ?_ ?_; (focus (simp [a1, a2, a3, a4, a5, a6]; done)); intro K9 h9)); simp (disch := first | exact dd | fail) [a1, a2, a3, a4, a5, a6]; (try simp (disch := first | exact de | fail) only [X7]); ((repeat (refine Yz ?_)); (first | refine h9 _ _ (Yp ?_)); clear h9 K9)) | refine Yo ?_ | (refine Y8 fun K hK => ?_) | refine Yq ?_ | (apply hK; clear hK K) | (refine Ye ?_; refine Yf ?_) | (refine Yn ?_ ?_; (focus (simp [a1, a2, a3, a4, a5, a6]; done)); refine Yp ?_) | refine Yg ?_ | (simp only [X0, Nat.reduceBEq]) | clear hK K)
  have b1 : decide (97 ≤ c.toNat) = decide ((97 : Int) ≤ c.toNat) := by simp; omega
  have b2 : decide (c.toNat ≤ 122) = decide ((c.toNat : Int) ≤ 122) := by simp; omega
  have b3 : decide (65 ≤ c.toNat) = decide ((65 : Int) ≤ c.toNat) := by simp; omega
  have b4 : decide (c.toNat ≤ 90) = decide ((c.toNat : Int) ≤ 90) := by simp; omega
  have b5 : decide (48 ≤ c.toNat) = decide ((48 : Int) ≤ c.toNat) := by simp; omega
  have b6 : decide (c.toNat ≤ 57) = decide ((c.toNat : Int) ≤ 57) := by simp; omega
  simp [okB, b1, b2, b3, b4, b5, b6, a1, a2, a3, a4, a5, a6]
  exact .pure .bool)
  · exact .bool

theorem among_call (c : UInt8) (l : List UInt8) (hl : l.length ≤ 1000000) : PCall Tryz.prog 128 [byteV c, .str l] (.bool (decide (c ∈ l))) := by
  refine pcall_body Tryz.func128 rfl Tryz.call128 ?_ ?_
  rotate_left 1
  refine awp_slots (s' := (byteV c : V) :: (.str l : V) :: zJ 15) rfl ?_; dsimp only [zJ]
  simp only [byteV]
  repeat' (first | (refine Y0 rfl fun K9 h9 => ?_; simp (disch := first | exact dd | fail); (try simp (disch := first | exact de | fail) only [X7]); ((repeat (refine Yz ?_)); (first | refine h9 _ _ (Ys ?_)); clear h9 K9)) | refine Y6 ?_ | (refine Y8 fun K hK => ?_) | refine Y9 ?_ | (apply hK; clear hK K) | refine Ya ?_ | (refine Yb rfl ?_ ?_ <;> intro hcnd <;> (try simp at hcnd) <;> try exact dc) | refine Yc ?_ | (refine Yd ?_; simp only [X0, Nat.reduceBEq]) | (refine Ye ?_; refine Yf ?_) | refine Yg ?_ | (simp only [X0, Nat.reduceBEq]) | clear hK K)
  · refine awp_loopU (α := Nat) (fun i => (zN 4 (some V.junk :: some (V.int .i64 i) :: zS 11 []))) (fun i => []) (fun i => i ≤ l.length ∧ ∀ j (h : j < l.length), j < i → l[j] ≠ c) (fun i => l.length - i) 0 ⟨by omega, fun j _ h => by omega⟩ ?_ ?_
    · dsimp only [ups, zN, zS]
      exact Yr [] (by simp [rowsOver])
    rintro i ⟨hi, hall⟩ KL hL
    dsimp only [ups, zN, zS]
    rcases Nat.lt_or_ge i l.length with hi | hi
    · by_cases hx : l[i] = c
      · have hx' : ((l[i].toNat : Int) = c.toNat) := by rw [hx]
        repeat' (first | (refine Y0 rfl fun K9 h9 => ?_; simp (disch := first | exact dd | fail) [hx']; (try simp (disch := first | exact de | fail) only [X7]); ((repeat (refine Yz ?_)); (first | refine h9 _ _ (Ys ?_)); clear h9 K9)) | refine Y6 ?_ | (refine Y8 fun K hK => ?_) | refine Y9 ?_ | (apply hK; clear hK K) | refine Ya ?_ | (refine Yb rfl ?_ ?_ <;> intro hcnd <;> (try simp at hcnd) <;> try exact dc) | refine Yc ?_ | (refine Yd ?_; simp only [X0, Nat.reduceBEq]) | (refine Ye ?_; refine Yf ?_) | refine Yg ?_ | (simp only [X0, Nat.reduceBEq]) | clear hK K)
        have : decide (c ∈ l) = true := by simp; rw [← hx]; exact List.getElem_mem _
        rw [this]
        exact .pure .bool
      · have hx' : ¬ ((l[i].toNat : Int) = c.toNat) := fun e => hx (UInt8.toNat_inj.1 (by omega))
        repeat' (first | (refine Y0 rfl fun K9 h9 => ?_; simp (disch := first | exact dd | fail) [hx']; (try simp (disch := first | exact de | fail) only [X7]); ((repeat (refine Yz ?_)); (first | refine h9 _ _ (Ys ?_)); clear h9 K9)) | refine Y6 ?_ | (refine Y8 fun K hK => ?_) | refine Y9 ?_ | (apply hK; clear hK K) | refine Ya ?_ | (refine Yb rfl ?_ ?_ <;> intro hcnd <;> (try simp at hcnd) <;> try exact dc) | refine Yc ?_ | (refine Yd ?_; simp only [X0, Nat.reduceBEq]) | (refine Ye ?_; refine Yf ?_) | refine Yg ?_ | (simp only [X0, Nat.reduceBEq]) | clear hK K)
        refine hL (i + 1) _ _ ⟨by omega, fun j hj h => ?_⟩ (by omega) ?_
        · rcases Nat.lt_or_ge j i with h3 | h3
          · exact hall j hj h3
          · obtain rfl : j = i := by omega
            exact hx
        · exact Yr [] (by simp [rowsOver])
    · repeat' (first | (refine Y0 rfl fun K9 h9 => ?_; simp (disch := first | exact dd | fail); (try simp (disch := first | exact de | fail) only [X7]); ((repeat (refine Yz ?_)); (first | refine h9 _ _ (Ys ?_)); clear h9 K9)) | refine Y6 ?_ | (refine Y8 fun K hK => ?_) | refine Y9 ?_ | (apply hK; clear hK K) | refine Ya ?_ | (refine Yb rfl ?_ ?_ <;> intro hcnd <;> (try simp at hcnd) <;> try exact dc) | refine Yc ?_ | (refine Yd ?_; simp only [X0, Nat.reduceBEq]) | (refine Ye ?_; refine Yf ?_) | refine Yg ?_ | (simp only [X0, Nat.reduceBEq]) | clear hK K)
      have : decide (c ∈ l) = false := by
        simp
        intro hm
        obtain ⟨j, hj, e⟩ := List.getElem_of_mem hm
        exact hall j hj (by omega) e
      rw [this]
      exact .pure .bool
  · exact .bool
end Go.Proofs.YtcfmanhblonjeaaGreatDoor.Ho
namespace Go.Proofs.YtcfmanhblonjeaaGreatDoor.Ho
open Go.VS Go.Hst
set_option linter.all false
set_option maxRecDepth 100000
attribute [local irreducible] arun arunD arunU AWp aend
def lowP (l : List UInt8) (i : Nat) : List UInt8 := low (l.take i) ++ l.drop i
@[simp] theorem lowP_length (l : List UInt8) (i : Nat) : (lowP l i).length = l.length := by simp [lowP, low]; omega
@[simp] theorem low_length (l : List UInt8) : (low l).length = l.length := by simp [low]
theorem lowP_get (l : List UInt8) (i : Nat) (h : i < l.length) : (lowP l i)[i]'(by simpa using h) = l[i] := by
  have hl : (low (l.take i)).length = i := by simp; omega
  simp only [lowP]
  rw [List.getElem_append_right (by omega)]
  simp [hl]
theorem lowP_succ (l : List UInt8) (i : Nat) (h : i < l.length) : lowP l (i + 1) = (lowP l i).set i (lowB l[i]) := by
  have hl : (low (l.take i)).length = i := by simp; omega
  unfold lowP
  rw [List.set_append_right _ _ (by omega), hl, Nat.sub_self, List.take_succ_eq_append_getElem h, List.drop_eq_getElem_cons h,
    show low (l.take i ++ [l[i]]) = low (l.take i) ++ [lowB l[i]] from List.map_append, List.append_assoc]
  rfl
theorem lowP_full (l : List UInt8) : lowP l l.length = low l := by simp [lowP]
theorem lowP_zero (l : List UInt8) : lowP l 0 = l := by simp [lowP, low]
theorem lowB_id (c : UInt8) (h : ¬ (65 ≤ c.toNat ∧ c.toNat ≤ 90)) : lowB c = c := by rw [lowB, if_neg h]
theorem lowB_up (c : UInt8) (h : 65 ≤ c.toNat ∧ c.toNat ≤ 90) : (lowB c).toNat = c.toNat + 32 := by rw [lowB, if_pos h]; simp; omega
theorem set_self (l : List UInt8) (i : Nat) (c : UInt8) (h : i < l.length) (e : l[i] = c) : l.set i c = l := by
  apply List.ext_getElem (by simp)
  intro j h1 h2
  rw [List.getElem_set]
  split
  · rename_i h; subst h; exact e.symm
  · rfl

theorem small_call (l : List UInt8) (hl : l.length ≤ 4294967280) : PCall Tryz.prog 101 [.str l] (.str (low l)) := by
  refine pcall_body Tryz.func101 rfl Tryz.call101 ?_ ?_
  rotate_left 1
  refine awp_slots (s' := (.str l : V) :: zJ 29) rfl ?_; dsimp only [zJ]
  repeat' (first | ((first | refine Y0 rfl fun K9 h9 => ?_ | (refine Y3 ?_ ?_; (focus (simp; done)); intro K9 h9)); simp (disch := first | exact dd | fail); (try simp (disch := first | exact de | fail) only [X7]); ((repeat (refine Yz ?_)); (first | refine h9 _ _ (Ys ?_)); clear h9 K9)) | refine Y6 ?_ | (refine Y8 fun K hK => ?_) | refine Y9 ?_ | (apply hK; clear hK K) | refine Ya ?_ | (refine Yb rfl ?_ ?_ <;> intro hcnd <;> (try simp at hcnd) <;> try exact dc) | refine Yc ?_ | (refine Yd ?_; simp only [X0, Nat.reduceBEq]) | (refine Ye ?_; refine Yf ?_) | (refine Yh ?_ ?_; (focus (simp; done)); refine Ys ?_) | refine Yg ?_ | (simp only [X0, Nat.reduceBEq]) | clear hK K)
  · refine awp_countU (fun i => (some V.junk :: none :: some V.junk :: none :: zS 4 (zN 2 (some (V.int .i64 i) :: zS 19 [])))) (fun i => [.live ((lowP l i).map byteV)]) l.length ?_ fun i hi KL hL => ?_
    · dsimp only [ups, zN, zS]
      exact Yr [some 0] (by simp [rowsOver, lowP_zero])
    dsimp only [ups, zN, zS]
    have hpl := lowP_length l i
    rcases Nat.lt_or_ge i l.length with hi | hi
    · have hg := lowP_get l i hi
      have hs := lowP_succ l i hi
      have hc : (l[i]).toNat < 256 := UInt8.toNat_lt _
      obtain ⟨c, hcc⟩ : ∃ c, l[i] = c := ⟨_, rfl⟩
      rw [hcc] at hg hs hc
      obtain ⟨L2, hL2⟩ : ∃ L2, lowP l (i + 1) = L2 := ⟨_, rfl⟩
      rw [hL2] at hs
      by_cases a1 : (65 : Int) ≤ c.toNat <;> by_cases a2 : (c.toNat : Int) ≤ 90 <;> (try (exfalso; omega))
      · have hu := lowB_up c ⟨by omega, by omega⟩
        have hw : (c.toNat : Int) + 97 - 65 = ((lowB c).toNat : Int) := by omega
        repeat' (first | ((first | refine Y0 rfl fun K9 h9 => ?_ | (refine Y3 ?_ ?_; (focus (simp [hpl, hg, a1, a2]; done)); intro K9 h9)); simp (disch := first | exact dd | fail) [hpl, hg, a1, a2]; (try simp (disch := first | exact de | fail) only [X7]); ((repeat (refine Yz ?_)); (first | refine h9 _ _ (Ys ?_)); clear h9 K9)) | refine Y6 ?_ | (refine Y8 fun K hK => ?_) | refine Y9 ?_ | (apply hK; clear hK K) | refine Ya ?_ | (refine Yb rfl ?_ ?_ <;> intro hcnd <;> (try simp at hcnd) <;> try exact dc) | refine Yc ?_ | (refine Yd ?_; simp only [X0, Nat.reduceBEq]) | (refine Ye ?_; refine Yf ?_) | (refine Yh ?_ ?_; (focus (simp [hpl, hg, a1, a2]; done)); refine Ys ?_) | refine Yg ?_ | (simp only [X0, Nat.reduceBEq]) | clear hK K)
        refine hL _ _ hi ?_
        have e : ((lowP l i).map byteV).set i (.int .u8 (lowB c).toNat) = L2.map byteV := by rw [hs, List.map_set]; rfl
        exact Le.mk [some 0] (by dsimp only [ups, zN, zS]; simp) (rowsRen_of (by simp) (by rw [hw, e, hL2]; simp [rowsOver])) (by simp)
      all_goals
        have hid := lowB_id c (by omega)
        repeat' (first | ((first | refine Y0 rfl fun K9 h9 => ?_ | (refine Y3 ?_ ?_; (focus (simp [hpl, hg, a1, a2]; done)); intro K9 h9)); simp (disch := first | exact dd | fail) [hpl, hg, a1, a2]; (try simp (disch := first | exact de | fail) only [X7]); ((repeat (refine Yz ?_)); (first | refine h9 _ _ (Ys ?_)); clear h9 K9)) | refine Y6 ?_ | (refine Y8 fun K hK => ?_) | refine Y9 ?_ | (apply hK; clear hK K) | refine Ya ?_ | (refine Yb rfl ?_ ?_ <;> intro hcnd <;> (try simp at hcnd) <;> try exact dc) | refine Yc ?_ | (refine Yd ?_; simp only [X0, Nat.reduceBEq]) | (refine Ye ?_; refine Yf ?_) | (refine Yh ?_ ?_; (focus (simp [hpl, hg, a1, a2]; done)); refine Ys ?_) | refine Yg ?_ | (simp only [X0, Nat.reduceBEq]) | clear hK K)
        refine hL _ _ hi ?_
        rw [hid, set_self (lowP l i) i c (by omega) hg] at hs
        rw [hL2, hs]
        exact Yr [some 0] (by simp [rowsOver])
    · obtain rfl : i = l.length := by omega
      rw [lowP_full]
      have hB := bytes_full (l := low l) (n := l.length) (by simp)
      have hB2 : List.take l.length (low l) = low l := List.take_of_length_le (by simp)
      repeat' (first | ((first | refine Y0 rfl fun K9 h9 => ?_ | (refine Y3 ?_ ?_; (focus (simp [hB, hB2]; done)); intro K9 h9)); simp (disch := first | exact dd | fail) [hB, hB2]; (try simp (disch := first | exact de | fail) only [X7]); ((repeat (refine Yz ?_)); (first | refine h9 _ _ (Ys ?_)); clear h9 K9)) | refine Y6 ?_ | (refine Y8 fun K hK => ?_) | refine Y9 ?_ | (apply hK; clear hK K) | refine Ya ?_ | (refine Yb rfl ?_ ?_ <;> intro hcnd <;> (try simp at hcnd) <;> try exact dc) | refine Yc ?_ | (refine Yd ?_; simp only [X0, Nat.reduceBEq]) | (refine Ye ?_; refine Yf ?_) | (refine Yh ?_ ?_; (focus (simp [hB, hB2]; done)); refine Ys ?_) | refine Yg ?_ | (simp only [X0, Nat.reduceBEq]) | clear hK K)
      exact .pure .str
  · exact .str

theorem lower_call (l : List UInt8) (hl : l.length ≤ 4294967280) : PCall Tryz.prog 107 [.str l] (.str (low l)) := by
  refine pcall_body Tryz.func107 rfl Tryz.call107 ?_ ?_
  rotate_left 1
  refine awp_slots (s' := (.str l : V) :: zJ 32) rfl ?_; dsimp only [zJ]
  repeat' (first | ((first | refine Y0 rfl fun K9 h9 => ?_ | (refine Y3 ?_ ?_; (focus (simp; done)); intro K9 h9)); simp (disch := first | exact dd | fail); (try simp (disch := first | exact de | fail) only [X7]); ((repeat (refine Yz ?_)); (first | refine h9 _ _ (Ys ?_)); clear h9 K9)) | refine Y6 ?_ | (refine Y8 fun K hK => ?_) | refine Y9 ?_ | (apply hK; clear hK K) | refine Ya ?_ | (refine Yb rfl ?_ ?_ <;> intro hcnd <;> (try simp at hcnd) <;> try exact dc) | refine Yc ?_ | (refine Yd ?_; simp only [X0, Nat.reduceBEq]) | (refine Ye ?_; refine Yf ?_) | (refine Yh ?_ ?_; (focus (simp; done)); refine Ys ?_) | refine Yg ?_ | (simp only [X0, Nat.reduceBEq]) | clear hK K)
  · refine awp_countU (fun i => (some V.junk :: none :: some V.junk :: none :: zS 4 (none :: some (V.int .i64 i) :: zS 23 []))) (fun i => [.live ((lowP l i).map byteV)]) l.length ?_ fun i hi KL hL => ?_
    · dsimp only [ups, zN, zS]
      exact Yr [some 0] (by simp [rowsOver, lowP_zero])
    dsimp only [ups, zN, zS]
    have hpl := lowP_length l i
    rcases Nat.lt_or_ge i l.length with hi | hi
    · have hg := lowP_get l i hi
      have hs := lowP_succ l i hi
      have hc : (l[i]).toNat < 256 := UInt8.toNat_lt _
      obtain ⟨c, hcc⟩ : ∃ c, l[i] = c := ⟨_, rfl⟩
      rw [hcc] at hg hs hc
      obtain ⟨L2, hL2⟩ : ∃ L2, lowP l (i + 1) = L2 := ⟨_, rfl⟩
      rw [hL2] at hs
      by_cases a1 : (65 : Int) ≤ c.toNat <;> by_cases a2 : (c.toNat : Int) ≤ 90 <;> (try (exfalso; omega))
      · have hu := lowB_up c ⟨by omega, by omega⟩
        have hw : (c.toNat : Int) + 32 = ((lowB c).toNat : Int) := by omega
        repeat' (first | ((first | refine Y0 rfl fun K9 h9 => ?_ | (refine Y3 ?_ ?_; (focus (simp [hpl, hg, a1, a2]; done)); intro K9 h9)); simp (disch := first | exact dd | fail) [hpl, hg, a1, a2]; (try simp (disch := first | exact de | fail) only [X7]); ((repeat (refine Yz ?_)); (first | refine h9 _ _ (Ys ?_)); clear h9 K9)) | refine Y6 ?_ | (refine Y8 fun K hK => ?_) | refine Y9 ?_ | (apply hK; clear hK K) | refine Ya ?_ | (refine Yb rfl ?_ ?_ <;> intro hcnd <;> (try simp at hcnd) <;> try exact dc) | refine Yc ?_ | (refine Yd ?_; simp only [X0, Nat.reduceBEq]) | (refine Ye ?_; refine Yf ?_) | (refine Yh ?_ ?_; (focus (simp [hpl, hg, a1, a2]; done)); refine Ys ?_) | refine Yg ?_ | (simp only [X0, Nat.reduceBEq]) | clear hK K)
        refine hL _ _ hi ?_
        have e : ((lowP l i).map byteV).set i (.int .u8 (lowB c).toNat) = L2.map byteV := by rw [hs, List.map_set]; rfl
        exact Le.mk [some 0] (by dsimp only [ups, zN, zS]; simp) (rowsRen_of (by simp) (by rw [hw, e, hL2]; simp [rowsOver])) (by simp)
      all_goals
        have hid := lowB_id c (by omega)
        repeat' (first | ((first | refine Y0 rfl fun K9 h9 => ?_ | (refine Y3 ?_ ?_; (focus (simp [hpl, hg, a1, a2]; done)); intro K9 h9)); simp (disch := first | exact dd | fail) [hpl, hg, a1, a2]; (try simp (disch := first | exact de | fail) only [X7]); ((repeat (refine Yz ?_)); (first | refine h9 _ _ (Ys ?_)); clear h9 K9)) | refine Y6 ?_ | (refine Y8 fun K hK => ?_) | refine Y9 ?_ | (apply hK; clear hK K) | refine Ya ?_ | (refine Yb rfl ?_ ?_ <;> intro hcnd <;> (try simp at hcnd) <;> try exact dc) | refine Yc ?_ | (refine Yd ?_; simp only [X0, Nat.reduceBEq]) | (refine Ye ?_; refine Yf ?_) | (refine Yh ?_ ?_; (focus (simp [hpl, hg, a1, a2]; done)); refine Ys ?_) | refine Yg ?_ | (simp only [X0, Nat.reduceBEq]) | clear hK K)
        refine hL _ _ hi ?_
        rw [hid, set_self (lowP l i) i c (by omega) hg] at hs
        rw [hL2, hs]
        exact Yr [some 0] (by simp [rowsOver])
    · obtain rfl : i = l.length := by omega
      rw [lowP_full]
      have hB := bytes_full (l := low l) (n := l.length) (by simp)
      have hB2 : List.take l.length (low l) = low l := List.take_of_length_le (by simp)
      repeat' (first | ((first | refine Y0 rfl fun K9 h9 => ?_ | (refine Y3 ?_ ?_; (focus (simp [hB, hB2]; done)); intro K9 h9)); simp (disch := first | exact dd | fail) [hB, hB2]; (try simp (disch := first | exact de | fail) only [X7]); ((repeat (refine Yz ?_)); (first | refine h9 _ _ (Ys ?_)); clear h9 K9)) | refine Y6 ?_ | (refine Y8 fun K hK => ?_) | refine Y9 ?_ | (apply hK; clear hK K) | refine Ya ?_ | (refine Yb rfl ?_ ?_ <;> intro hcnd <;> (try simp at hcnd) <;> try exact dc) | refine Yc ?_ | (refine Yd ?_; simp only [X0, Nat.reduceBEq]) | (refine Ye ?_; refine Yf ?_) | (refine Yh ?_ ?_; (focus (simp [hB, hB2]; done)); refine Ys ?_) | refine Yg ?_ | (simp only [X0, Nat.reduceBEq]) | clear hK K)
      exact .pure .str
  · exact .str

def eqB (a b : List UInt8) : Bool := low a == low b
theorem equal_call (a b : List UInt8) (ha : a.length ≤ 4294967280) (hb : b.length ≤ 4294967280) : PCall Tryz.prog 72 [.str a, .str b] (.bool (eqB a b)) := by
  refine pcall_body Tryz.func72 rfl Tryz.call72 ?_ ?_
  rotate_left 1
  refine awp_slots (s' := (.str a : V) :: (.str b : V) :: zJ 8) rfl ?_; dsimp only [zJ]
  repeat' (first | (refine Y0 rfl fun K9 h9 => ?_; simp (disch := first | exact dd | fail); (try simp (disch := first | exact de | fail) only [X7]); ((first | refine Ap (small_call a ha) ?_ | refine Ap (small_call b hb) ?_ | skip) <;> ((repeat (refine Yz ?_)); (first | refine h9 _ _ (Ys ?_)); clear h9 K9))) | refine Y6 ?_ | (refine Y8 fun K hK => ?_) | refine Y9 ?_ | (apply hK; clear hK K) | (refine Ye ?_; refine Yf ?_) | refine Yg ?_ | (simp only [X0, Nat.reduceBEq]) | clear hK K)
  · simp [eqB]
    exact .pure .bool
  · exact .bool
theorem alike_call (a b : List UInt8) (ha : a.length ≤ 4294967280) (hb : b.length ≤ 4294967280) : PCall Tryz.prog 82 [.str a, .str b] (.bool (eqB a b)) := by
  refine pcall_body Tryz.func82 rfl Tryz.call82 ?_ ?_
  rotate_left 1
  refine awp_slots (s' := (.str a : V) :: (.str b : V) :: zJ 8) rfl ?_; dsimp only [zJ]
  repeat' (first | (refine Y0 rfl fun K9 h9 => ?_; simp (disch := first | exact dd | fail); (try simp (disch := first | exact de | fail) only [X7]); ((first | refine Ap (lower_call a ha) ?_ | refine Ap (lower_call b hb) ?_ | skip) <;> ((repeat (refine Yz ?_)); (first | refine h9 _ _ (Ys ?_)); clear h9 K9))) | refine Y6 ?_ | (refine Y8 fun K hK => ?_) | refine Y9 ?_ | (apply hK; clear hK K) | (refine Ye ?_; refine Yf ?_) | refine Yg ?_ | (simp only [X0, Nat.reduceBEq]) | clear hK K)
  · simp [eqB]
    exact .pure .bool
  · exact .bool
end Go.Proofs.YtcfmanhblonjeaaGreatDoor.Ho
namespace Go.Proofs.YtcfmanhblonjeaaGreatDoor.Ho
open Go.VS Go.Hst
set_option linter.all false
set_option maxRecDepth 100000
attribute [local irreducible] arun arunD arunU AWp aend
def okL (c : UInt8) : Bool := okB c || c == 45
def labelB (l : List UInt8) : Bool := decide (1 ≤ l.length) && (decide (l.length ≤ 63) && (!(l.getD 0 0 == 45) && (!(l.getD (l.length - 1) 0 == 45) && l.all okL)))
theorem u8_ne {a b : UInt8} (h : a ≠ b) : ¬ ((a.toNat : Int) = b.toNat) := fun e => h (UInt8.toNat_inj.1 (by omega))
theorem u8i (a k : UInt8) (n : Int) (h : n = k.toNat) : ((a.toNat : Int) = n) ↔ a = k := by
  subst h
  constructor
  · intro h
    exact UInt8.toNat_inj.1 (by omega)
  · rintro rfl; rfl
theorem u45 {a : UInt8} : ((a.toNat : Int) = 45) ↔ a = 45 := u8i a 45 45 rfl
theorem all_false {l : List UInt8} {p : UInt8 → Bool} {i : Nat} (hi : i < l.length) (h : p l[i] = false) : l.all p = false := by
  rw [List.all_eq_false]
  exact ⟨l[i], List.getElem_mem _, by simp [h]⟩
theorem all_true {l : List UInt8} {p : UInt8 → Bool} (h : ∀ j (h : j < l.length), p l[j] = true) : l.all p = true := by
  rw [List.all_eq_true]
  intro x hx
  obtain ⟨j, hj, rfl⟩ := List.getElem_of_mem hx
  exact h j hj

theorem label_call (l : List UInt8) (hl : l.length ≤ 4294967280) : PCall Tryz.prog 100 [.str l] (.bool (labelB l)) := by
  refine pcall_body Tryz.func100 rfl Tryz.call100 ?_ ?_
  rotate_left 1
  refine awp_slots (s' := (.str l : V) :: zJ 45) rfl ?_; dsimp only [zJ]
  by_cases h1 : l = []
  · subst h1
    repeat' (first | ((first | refine Yl rfl fun K9 h9 => ?_ | (refine Ym ?_ ?_; (focus (simp; done)); intro K9 h9)); simp (disch := first | exact dd | fail); (try simp (disch := first | exact de | fail) only [X7]); ((repeat (refine Yz ?_)); (first | refine h9 _ _ (Yp ?_)); clear h9 K9)) | refine Yo ?_ | (refine Y8 fun K hK => ?_) | refine Yq ?_ | (apply hK; clear hK K) | refine Ya ?_ | (refine Yb rfl ?_ ?_ <;> intro hcnd <;> (try simp at hcnd) <;> try exact dc) | refine Yc ?_ | (refine Yd ?_; simp only [X0, Nat.reduceBEq]) | (refine Ye ?_; refine Yf ?_) | (refine Yn ?_ ?_; (focus (simp; done)); refine Yp ?_) | refine Yg ?_ | (simp only [X0, Nat.reduceBEq]) | clear hK K)
    exact .pure .bool
  have hpos : 0 < l.length := List.length_pos_iff.2 h1
  replace h1 : ¬ (l.length : Int) < 1 := by omega
  by_cases h2 : (63 : Int) < l.length
  · repeat' (first | ((first | refine Yl rfl fun K9 h9 => ?_ | (refine Ym ?_ ?_; (focus (simp [h1, h2]; done)); intro K9 h9)); simp (disch := first | exact dd | fail) [h1, h2]; (try simp (disch := first | exact de | fail) only [X7]); ((repeat (refine Yz ?_)); (first | refine h9 _ _ (Yp ?_)); clear h9 K9)) | refine Yo ?_ | (refine Y8 fun K hK => ?_) | refine Yq ?_ | (apply hK; clear hK K) | refine Ya ?_ | (refine Yb rfl ?_ ?_ <;> intro hcnd <;> (try simp at hcnd) <;> try exact dc) | refine Yc ?_ | (refine Yd ?_; simp only [X0, Nat.reduceBEq]) | (refine Ye ?_; refine Yf ?_) | (refine Yn ?_ ?_; (focus (simp [h1, h2]; done)); refine Yp ?_) | refine Yg ?_ | (simp only [X0, Nat.reduceBEq]) | clear hK K)
    have : labelB l = false := by
      have : decide (l.length ≤ 63) = false := by simp; omega
      simp [labelB, this]
    rw [this]
    exact .pure .bool
  have e1 : ((l.length : Int) - 1).toNat = l.length - 1 := by omega
  have g0 : l.getD 0 0 = l[0]'(by omega) := by simp [show 0 < l.length by omega]
  have g1 : l.getD (l.length - 1) 0 = l[l.length - 1]'(by omega) := by simp [show l.length - 1 < l.length by omega]
  by_cases h3 : ((l[0]'(by omega)).toNat : Int) = 45
  · repeat' (first | ((first | refine Yl rfl fun K9 h9 => ?_ | (refine Ym ?_ ?_; (focus (simp [h1, h2, h3]; done)); intro K9 h9)); simp (disch := first | exact dd | fail) [h1, h2, h3]; (try simp (disch := first | exact de | fail) only [X7]); ((repeat (refine Yz ?_)); (first | refine h9 _ _ (Yp ?_)); clear h9 K9)) | refine Yo ?_ | (refine Y8 fun K hK => ?_) | refine Yq ?_ | (apply hK; clear hK K) | refine Ya ?_ | (refine Yb rfl ?_ ?_ <;> intro hcnd <;> (try simp at hcnd) <;> try exact dc) | refine Yc ?_ | (refine Yd ?_; simp only [X0, Nat.reduceBEq]) | (refine Ye ?_; refine Yf ?_) | (refine Yn ?_ ?_; (focus (simp [h1, h2, h3]; done)); refine Yp ?_) | refine Yg ?_ | (simp only [X0, Nat.reduceBEq]) | clear hK K)
    have : labelB l = false := by
      have : l[0]'(by omega) = 45 := u45.1 h3
      rw [labelB, g0, this]; simp
    rw [this]
    exact .pure .bool
  by_cases h4 : ((l[l.length - 1]'(by omega)).toNat : Int) = 45
  · repeat' (first | ((first | refine Yl rfl fun K9 h9 => ?_ | (refine Ym ?_ ?_; (focus (simp [h1, h2, h3, h4, e1]; done)); intro K9 h9)); simp (disch := first | exact dd | fail) [h1, h2, h3, h4, e1]; (try simp (disch := first | exact de | fail) only [X7]); ((repeat (refine Yz ?_)); (first | refine h9 _ _ (Yp ?_)); clear h9 K9)) | refine Yo ?_ | (refine Y8 fun K hK => ?_) | refine Yq ?_ | (apply hK; clear hK K) | refine Ya ?_ | (refine Yb rfl ?_ ?_ <;> intro hcnd <;> (try simp at hcnd) <;> try exact dc) | refine Yc ?_ | (refine Yd ?_; simp only [X0, Nat.reduceBEq]) | (refine Ye ?_; refine Yf ?_) | (refine Yn ?_ ?_; (focus (simp [h1, h2, h3, h4, e1]; done)); refine Yp ?_) | refine Yg ?_ | (simp only [X0, Nat.reduceBEq]) | clear hK K)
    have : labelB l = false := by
      have : l[l.length - 1]'(by omega) = 45 := u45.1 h4
      rw [labelB, g0, g1, this]; simp
    rw [this]
    exact .pure .bool
  have hB : labelB l = l.all okL := by
    have q1 : decide (1 ≤ l.length) = true := by simp; omega
    have q2 : decide (l.length ≤ 63) = true := by simp; omega
    have q3 : l[0]'(by omega) ≠ 45 := fun e => h3 (u45.2 e)
    have q4 : l[l.length - 1]'(by omega) ≠ 45 := fun e => h4 (u45.2 e)
    rw [labelB, g0, g1, beq_false_of_ne q3, beq_false_of_ne q4, q1, q2]; rfl
  rw [hB]
  repeat' (first | ((first | refine Yl rfl fun K9 h9 => ?_ | (refine Ym ?_ ?_; (focus (simp [h1, h2, h3, h4, e1]; done)); intro K9 h9)); simp (disch := first | exact dd | fail) [h1, h2, h3, h4, e1]; (try simp (disch := first | exact de | fail) only [X7]); ((repeat (refine Yz ?_)); (first | refine h9 _ _ (Yp ?_)); clear h9 K9)) | refine Yo ?_ | (refine Y8 fun K hK => ?_) | refine Yq ?_ | (apply hK; clear hK K) | refine Ya ?_ | (refine Yb rfl ?_ ?_ <;> intro hcnd <;> (try simp at hcnd) <;> try exact dc) | refine Yc ?_ | (refine Yd ?_; simp only [X0, Nat.reduceBEq]) | (refine Ye ?_; refine Yf ?_) | (refine Yn ?_ ?_; (focus (simp [h1, h2, h3, h4, e1]; done)); refine Yp ?_) | refine Yg ?_ | (simp only [X0, Nat.reduceBEq]) | clear hK K)
  · refine awp_loopU (α := Nat) (fun i => (some V.junk :: none :: some V.junk :: none :: zS 23 (zN 2 (some (V.int .i64 i) :: zS 16 [])))) (fun i => [.live (l.map byteV)]) (fun i => i ≤ l.length ∧ ∀ j (h : j < l.length), j < i → okL l[j] = true) (fun i => l.length - i) 0 ⟨by omega, fun j _ h => by omega⟩ ?_ ?_
    · dsimp only [ups, zN, zS]
      exact Yr [some 0] (by simp [rowsOver])
    rintro i ⟨hi, hall⟩ KL hL
    dsimp only [ups, zN, zS]
    rcases Nat.lt_or_ge i l.length with hi | hi
    · have hstep : okL l[i] = true → i + 1 ≤ l.length ∧ ∀ j (h : j < l.length), j < i + 1 → okL l[j] = true := fun hx => ⟨by omega, fun j hj h => by
        rcases Nat.lt_or_ge j i with h3 | h3
        · exact hall j hj h3
        · obtain rfl : j = i := by omega
          exact hx⟩
      have hfalse : okL l[i] = false → l.all okL = false := all_false hi
      obtain ⟨c, hcc⟩ : ∃ c, l[i] = c := ⟨_, rfl⟩
      rw [hcc] at hstep hfalse
      cases hc1 : letB c
      · cases hc2 : digB c
        · by_cases hc3 : (c.toNat : Int) = 45
          · repeat' (first | ((first | refine Yl rfl fun K9 h9 => ?_ | (refine Ym ?_ ?_; (focus (simp [hcc, hc1, hc2, hc3]; done)); intro K9 h9)); simp (disch := first | exact dd | fail) [hcc, hc1, hc2, hc3]; (try simp (disch := first | exact de | fail) only [X7]); ((first | refine Ap (letter_call c) ?_ | refine Ap (digit_call c) ?_ | skip) <;> ((repeat (refine Yz ?_)); (first | refine h9 _ _ (Yp ?_)); clear h9 K9))) | refine Yo ?_ | (refine Y8 fun K hK => ?_) | refine Yq ?_ | (apply hK; clear hK K) | refine Ya ?_ | (refine Yb rfl ?_ ?_ <;> intro hcnd <;> (try simp at hcnd) <;> try exact dc) | refine Yc ?_ | (refine Yd ?_; simp only [X0, Nat.reduceBEq]) | (refine Ye ?_; refine Yf ?_) | (refine Yn ?_ ?_; (focus (simp [hcc, hc1, hc2, hc3]; done)); refine Yp ?_) | refine Yg ?_ | (simp only [X0, Nat.reduceBEq]) | clear hK K)
            have : c = 45 := u45.1 hc3
            refine hL (i + 1) _ _ (hstep (by simp [okL, this])) (by omega) ?_
            exact Yr [some 0] (by simp [rowsOver])
          · repeat' (first | ((first | refine Yl rfl fun K9 h9 => ?_ | (refine Ym ?_ ?_; (focus (simp [hcc, hc1, hc2, hc3]; done)); intro K9 h9)); simp (disch := first | exact dd | fail) [hcc, hc1, hc2, hc3]; (try simp (disch := first | exact de | fail) only [X7]); ((first | refine Ap (letter_call c) ?_ | refine Ap (digit_call c) ?_ | skip) <;> ((repeat (refine Yz ?_)); (first | refine h9 _ _ (Yp ?_)); clear h9 K9))) | refine Yo ?_ | (refine Y8 fun K hK => ?_) | refine Yq ?_ | (apply hK; clear hK K) | refine Ya ?_ | (refine Yb rfl ?_ ?_ <;> intro hcnd <;> (try simp at hcnd) <;> try exact dc) | refine Yc ?_ | (refine Yd ?_; simp only [X0, Nat.reduceBEq]) | (refine Ye ?_; refine Yf ?_) | (refine Yn ?_ ?_; (focus (simp [hcc, hc1, hc2, hc3]; done)); refine Yp ?_) | refine Yg ?_ | (simp only [X0, Nat.reduceBEq]) | clear hK K)
            have hne : ¬ c = 45 := fun e => hc3 (u45.2 e)
            rw [hfalse (by simp [okL, okB_eq, hc1, hc2, hne])]
            exact .pure .bool
        · repeat' (first | ((first | refine Yl rfl fun K9 h9 => ?_ | (refine Ym ?_ ?_; (focus (simp [hcc, hc1, hc2]; done)); intro K9 h9)); simp (disch := first | exact dd | fail) [hcc, hc1, hc2]; (try simp (disch := first | exact de | fail) only [X7]); ((first | refine Ap (letter_call c) ?_ | refine Ap (digit_call c) ?_ | skip) <;> ((repeat (refine Yz ?_)); (first | refine h9 _ _ (Yp ?_)); clear h9 K9))) | refine Yo ?_ | (refine Y8 fun K hK => ?_) | refine Yq ?_ | (apply hK; clear hK K) | refine Ya ?_ | (refine Yb rfl ?_ ?_ <;> intro hcnd <;> (try simp at hcnd) <;> try exact dc) | refine Yc ?_ | (refine Yd ?_; simp only [X0, Nat.reduceBEq]) | (refine Ye ?_; refine Yf ?_) | (refine Yn ?_ ?_; (focus (simp [hcc, hc1, hc2]; done)); refine Yp ?_) | refine Yg ?_ | (simp only [X0, Nat.reduceBEq]) | clear hK K)
          refine hL (i + 1) _ _ (hstep (by simp [okL, okB_eq, hc2])) (by omega) ?_
          exact Yr [some 0] (by simp [rowsOver])
      · repeat' (first | ((first | refine Yl rfl fun K9 h9 => ?_ | (refine Ym ?_ ?_; (focus (simp [hcc, hc1]; done)); intro K9 h9)); simp (disch := first | exact dd | fail) [hcc, hc1]; (try simp (disch := first | exact de | fail) only [X7]); ((first | refine Ap (letter_call c) ?_ | refine Ap (digit_call c) ?_ | skip) <;> ((repeat (refine Yz ?_)); (first | refine h9 _ _ (Yp ?_)); clear h9 K9))) | refine Yo ?_ | (refine Y8 fun K hK => ?_) | refine Yq ?_ | (apply hK; clear hK K) | refine Ya ?_ | (refine Yb rfl ?_ ?_ <;> intro hcnd <;> (try simp at hcnd) <;> try exact dc) | refine Yc ?_ | (refine Yd ?_; simp only [X0, Nat.reduceBEq]) | (refine Ye ?_; refine Yf ?_) | (refine Yn ?_ ?_; (focus (simp [hcc, hc1]; done)); refine Yp ?_) | refine Yg ?_ | (simp only [X0, Nat.reduceBEq]) | clear hK K)
        refine hL (i + 1) _ _ (hstep (by simp [okL, okB_eq, hc1])) (by omega) ?_
        exact Yr [some 0] (by simp [rowsOver])
    · repeat' (first | ((first | refine Yl rfl fun K9 h9 => ?_ | (refine Ym ?_ ?_; (focus (simp; done)); intro K9 h9)); simp (disch := first | exact dd | fail); (try simp (disch := first | exact de | fail) only [X7]); ((repeat (refine Yz ?_)); (first | refine h9 _ _ (Yp ?_)); clear h9 K9)) | refine Yo ?_ | (refine Y8 fun K hK => ?_) | refine Yq ?_ | (apply hK; clear hK K) | refine Ya ?_ | (refine Yb rfl ?_ ?_ <;> intro hcnd <;> (try simp at hcnd) <;> try exact dc) | refine Yc ?_ | (refine Yd ?_; simp only [X0, Nat.reduceBEq]) | (refine Ye ?_; refine Yf ?_) | (refine Yn ?_ ?_; (focus (simp; done)); refine Yp ?_) | refine Yg ?_ | (simp only [X0, Nat.reduceBEq]) | clear hK K)
      rw [all_true fun j hj => hall j hj (by omega)]
      exact .pure .bool
  · exact .bool
end Go.Proofs.YtcfmanhblonjeaaGreatDoor.Ho
namespace Go.Proofs.YtcfmanhblonjeaaGreatDoor.Ho
open Go.VS Go.Hst
set_option linter.all false
set_option maxRecDepth 100000
attribute [local irreducible] arun arunD arunU AWp aend
def dnsB (s : List UInt8) : Bool := decide (s.length ≤ 128) && (splitC 46 s).all labelB
theorem allL_false {α : Type} {l : List α} {p : α → Bool} {i : Nat} (hi : i < l.length) (h : p l[i] = false) : l.all p = false := by
  rw [List.all_eq_false]
  exact ⟨l[i], List.getElem_mem _, by simp [h]⟩
theorem allL_true {α : Type} {l : List α} {p : α → Bool} (h : ∀ j (h : j < l.length), p l[j] = true) : l.all p = true := by
  rw [List.all_eq_true]
  intro x hx
  obtain ⟨j, hj, rfl⟩ := List.getElem_of_mem hx
  exact h j hj

theorem dns_call (s : List UInt8) (hs : s.length ≤ 4294967280) : PCall Tryz.prog 71 [.str s] (.bool (dnsB s)) := by
  refine pcall_body Tryz.func71 rfl Tryz.call71 ?_ ?_
  rotate_left 1
  refine awp_slots (s' := (.str s : V) :: zJ 18) rfl ?_; dsimp only [zJ]
  by_cases h1 : (128 : Int) < s.length
  · repeat' (first | (refine Y0 rfl fun K9 h9 => ?_; simp (disch := first | exact dd | fail) [h1]; (try simp (disch := first | exact de | fail) only [X7]); ((repeat (refine Yz ?_)); (first | refine h9 _ _ (Ys ?_)); clear h9 K9)) | refine Y6 ?_ | (refine Y8 fun K hK => ?_) | refine Y9 ?_ | (apply hK; clear hK K) | refine Ya ?_ | (refine Yb rfl ?_ ?_ <;> intro hcnd <;> (try simp at hcnd) <;> try exact dc) | refine Yc ?_ | (refine Yd ?_; simp only [X0, Nat.reduceBEq]) | (refine Ye ?_; refine Yf ?_) | refine Yg ?_ | (simp only [X0, Nat.reduceBEq]) | clear hK K)
    have : dnsB s = false := by
      have : decide (s.length ≤ 128) = false := by simp; omega
      simp [dnsB, this]
    rw [this]
    exact .pure .bool
  have hdB : dnsB s = (splitC 46 s).all labelB := by
    have : decide (s.length ≤ 128) = true := by simp; omega
    simp [dnsB, this]
  rw [hdB]
  have hsp := split_call s 46 hs
  have hlen := splitC_len 46 s
  have hcnt : s.count 46 ≤ s.length := List.count_le_length
  have hpc := splitC_piece 46 s
  generalize splitC 46 s = L at *
  have hLl : L.length ≤ 4294967281 := by omega
  repeat' (first | (refine Y0 rfl fun K9 h9 => ?_; simp (disch := first | exact dd | fail) [h1]; (try simp (disch := first | exact de | fail) only [X7]); ((first | refine Ap hsp ?_ | skip) <;> ((repeat (refine Yz ?_)); (first | refine h9 _ _ (Ys ?_)); clear h9 K9))) | refine Y6 ?_ | (refine Y8 fun K hK => ?_) | refine Y9 ?_ | (apply hK; clear hK K) | refine Ya ?_ | (refine Yb rfl ?_ ?_ <;> intro hcnd <;> (try simp at hcnd) <;> try exact dc) | refine Yc ?_ | (refine Yd ?_; simp only [X0, Nat.reduceBEq]) | (refine Ye ?_; refine Yf ?_) | refine Yg ?_ | (simp only [X0, Nat.reduceBEq]) | clear hK K)
  · refine awp_loopU (α := Nat) (fun i => (some V.junk :: none :: some V.junk :: none :: zS 5 (zN 2 (some (V.int .i64 i) :: zS 7 [])))) (fun i => []) (fun i => i ≤ L.length ∧ ∀ j (h : j < L.length), j < i → labelB L[j] = true) (fun i => L.length - i) 0 ⟨by omega, fun j _ h => by omega⟩ ?_ ?_
    · dsimp only [ups, zN, zS]
      exact Yr [] (by simp [rowsOver])
    rintro i ⟨hi, hall⟩ KL hL
    dsimp only [ups, zN, zS]
    rcases Nat.lt_or_ge i L.length with hi | hi
    · have hstep : labelB L[i] = true → i + 1 ≤ L.length ∧ ∀ j (h : j < L.length), j < i + 1 → labelB L[j] = true := fun hx => ⟨by omega, fun j hj h => by
        rcases Nat.lt_or_ge j i with h3 | h3
        · exact hall j hj h3
        · obtain rfl : j = i := by omega
          exact hx⟩
      have hfalse : labelB L[i] = false → L.all labelB = false := allL_false hi
      obtain ⟨x, hxx⟩ : ∃ x, L[i] = x := ⟨_, rfl⟩
      have hxl : x.length ≤ 4294967280 := by
        have := (hpc x (by rw [← hxx]; exact List.getElem_mem _)).2
        omega
      rw [hxx] at hstep hfalse
      cases hx : labelB x
      · repeat' (first | (refine Y0 rfl fun K9 h9 => ?_; simp (disch := first | exact dd | fail) [hxx, hx]; (try simp (disch := first | exact de | fail) only [X7]); ((first | refine Ap (label_call x hxl) ?_ | skip) <;> ((repeat (refine Yz ?_)); (first | refine h9 _ _ (Ys ?_)); clear h9 K9))) | refine Y6 ?_ | (refine Y8 fun K hK => ?_) | refine Y9 ?_ | (apply hK; clear hK K) | refine Ya ?_ | (refine Yb rfl ?_ ?_ <;> intro hcnd <;> (try simp at hcnd) <;> try exact dc) | refine Yc ?_ | (refine Yd ?_; simp only [X0, Nat.reduceBEq]) | (refine Ye ?_; refine Yf ?_) | refine Yg ?_ | (simp only [X0, Nat.reduceBEq]) | clear hK K)
        rw [hfalse hx]
        exact .pure .bool
      · repeat' (first | (refine Y0 rfl fun K9 h9 => ?_; simp (disch := first | exact dd | fail) [hxx, hx]; (try simp (disch := first | exact de | fail) only [X7]); ((first | refine Ap (label_call x hxl) ?_ | skip) <;> ((repeat (refine Yz ?_)); (first | refine h9 _ _ (Ys ?_)); clear h9 K9))) | refine Y6 ?_ | (refine Y8 fun K hK => ?_) | refine Y9 ?_ | (apply hK; clear hK K) | refine Ya ?_ | (refine Yb rfl ?_ ?_ <;> intro hcnd <;> (try simp at hcnd) <;> try exact dc) | refine Yc ?_ | (refine Yd ?_; simp only [X0, Nat.reduceBEq]) | (refine Ye ?_; refine Yf ?_) | refine Yg ?_ | (simp only [X0, Nat.reduceBEq]) | clear hK K)
        refine hL (i + 1) _ _ (hstep hx) (by omega) ?_
        exact Yr [] (by simp [rowsOver])
    · repeat' (first | (refine Y0 rfl fun K9 h9 => ?_; simp (disch := first | exact dd | fail); (try simp (disch := first | exact de | fail) only [X7]); ((repeat (refine Yz ?_)); (first | refine h9 _ _ (Ys ?_)); clear h9 K9)) | refine Y6 ?_ | (refine Y8 fun K hK => ?_) | refine Y9 ?_ | (apply hK; clear hK K) | refine Ya ?_ | (refine Yb rfl ?_ ?_ <;> intro hcnd <;> (try simp at hcnd) <;> try exact dc) | refine Yc ?_ | (refine Yd ?_; simp only [X0, Nat.reduceBEq]) | (refine Ye ?_; refine Yf ?_) | refine Yg ?_ | (simp only [X0, Nat.reduceBEq]) | clear hK K)
      rw [allL_true fun j hj => hall j hj (by omega)]
      exact .pure .bool
  · exact .bool

structure SpH (c : UInt8) (s : List UInt8) (x : List (List UInt8) × Nat × Nat) : Prop where
  i_le : x.2.2 ≤ s.length + 1
  a_le : x.2.1 ≤ x.2.2
  n_le : x.1.length ≤ x.2.2
  run : x.2.2 ≤ s.length → x.1 ++ splitC c (s.drop x.2.1) = splitC c s ∧ c ∉ (s.drop x.2.1).take (x.2.2 - x.2.1)
  fin : x.2.2 = s.length + 1 → x.1 = splitC c s

theorem take_next {s : List UInt8} {a i : Nat} (ha : a ≤ i) (hi : i < s.length) : (s.drop a).take (i + 1 - a) = (s.drop a).take (i - a) ++ [s[i]] := by
  rw [show i + 1 - a = (i - a) + 1 by omega, List.take_succ_eq_append_getElem (by simp; omega)]
  simp [show a + (i - a) = i by omega]
theorem drop_at {s : List UInt8} {a i : Nat} (ha : a ≤ i) (hi : i < s.length) : s.drop a = (s.drop a).take (i - a) ++ s[i] :: s.drop (i + 1) := by
  conv => lhs; rw [← List.take_append_drop (i - a) (s.drop a)]
  rw [List.drop_drop, show a + (i - a) = i by omega, List.drop_eq_getElem_cons hi]

theorem rsplit_call (s : List UInt8) (c : UInt8) (hs : s.length ≤ 1000000) : PCall Tryz.prog 83 [.str s, byteV c] (.sl (splitC c s).length ((splitC c s).map V.str)) := by
  refine pcall_body Tryz.func83 rfl Tryz.call83 ?_ ?_
  rotate_left 1
  refine awp_slots (s' := (.str s : V) :: (byteV c : V) :: zJ 33) rfl ?_; dsimp only [zJ]
  simp only [byteV]
  repeat' (first | ((first | refine Y0 rfl fun K9 h9 => ?_ | (refine Y3 ?_ ?_; (focus (simp; done)); intro K9 h9)); simp (disch := first | exact dd | fail); (try simp (disch := first | exact de | fail) only [X7]); ((repeat (refine Yz ?_)); (first | refine h9 _ _ (Ys ?_)); clear h9 K9)) | refine Y6 ?_ | (refine Y8 fun K hK => ?_) | refine Y9 ?_ | (apply hK; clear hK K) | refine Ya ?_ | (refine Yb rfl ?_ ?_ <;> intro hcnd <;> (try simp at hcnd) <;> try exact dc) | refine Yc ?_ | (refine Yd ?_; simp only [X0, Nat.reduceBEq]) | (refine Ye ?_; refine Yf ?_) | (refine Yh ?_ ?_; (focus (simp; done)); refine Ys ?_) | refine Yg ?_ | (simp only [X0, Nat.reduceBEq]) | clear hK K)
  · refine awp_loopU (α := List (List UInt8) × Nat × Nat) (fun x => (zN 4 (some V.junk :: some (V.osl 0 0 x.1.length 1) :: some (V.int .i64 x.2.1) :: some (V.int .i64 x.2.2) :: zS 27 []))) (fun x => [.live (x.1.map V.str)]) (SpH c s) (fun x => s.length + 1 - x.2.2) ([], 0, 0)
      ⟨by simp, by simp, by simp, fun _ => by simp, fun h => by simp at h⟩ ?_ ?_
    · dsimp only [ups, zN, zS]
      exact Yr [none] (by simp [rowsOver])
    rintro ⟨out, a, i⟩ ⟨hi, ha, hn, hrun, hfin⟩ KL hL
    dsimp only at hi ha hn hrun hfin
    dsimp only [ups, zN, zS]
    rcases Nat.lt_or_ge s.length i with hgt | hi
    · obtain rfl := hfin (by omega)
      repeat' (first | ((first | refine Y0 rfl fun K9 h9 => ?_ | (refine Y3 ?_ ?_; (focus (simp [bytes_full, List.take_of_length_le]; done)); intro K9 h9)); simp (disch := first | exact dd | fail) [bytes_full, List.take_of_length_le]; (try simp (disch := first | exact de | fail) only [X7]); ((repeat (refine Yz ?_)); (first | refine h9 _ _ (Ys ?_)); clear h9 K9)) | refine Y6 ?_ | (refine Y8 fun K hK => ?_) | refine Y9 ?_ | (apply hK; clear hK K) | refine Ya ?_ | (refine Yb rfl ?_ ?_ <;> intro hcnd <;> (try simp at hcnd) <;> try exact dc) | refine Yc ?_ | (refine Yd ?_; simp only [X0, Nat.reduceBEq]) | (refine Ye ?_; refine Yf ?_) | (refine Yh ?_ ?_; (focus (simp [bytes_full, List.take_of_length_le]; done)); refine Ys ?_) | refine Yg ?_ | (simp only [X0, Nat.reduceBEq]) | clear hK K)
      simp [List.take_of_length_le]
      exact view_row rfl (by simp) (by simp)
    obtain ⟨hr, hno⟩ := hrun hi
    have hsub : ((s.drop a).take (i - a)).length ≤ s.length := by simp; omega
    rcases Nat.lt_or_ge i s.length with hi | hi
    · by_cases hx : s[i] = c
      · have hx' : ((s[i].toNat : Int) = c.toNat) := by rw [hx]
        have hne : ¬ (i : Int) = s.length := by omega
        have hd := drop_at ha hi
        generalize hp : (s.drop a).take (i - a) = p at *
        repeat' (first | ((first | refine Yl rfl fun K9 h9 => ?_ | (refine Ym ?_ ?_; (focus (simp [hx', hne, hp, List.take_of_length_le]; done)); intro K9 h9)); simp (disch := first | exact dd | fail) [hx', hne, hp, List.take_of_length_le]; (try simp (disch := first | exact de | fail) only [X7]); ((repeat (refine Yz ?_)); (first | refine h9 _ _ (Yp ?_)); clear h9 K9)) | refine Yo ?_ | (refine Y8 fun K hK => ?_) | refine Yq ?_ | (apply hK; clear hK K) | refine Ya ?_ | (refine Yb rfl ?_ ?_ <;> intro hcnd <;> (try simp at hcnd) <;> try exact dc) | refine Yc ?_ | (refine Yd ?_; simp only [X0, Nat.reduceBEq]) | (refine Ye ?_; refine Yf ?_) | (refine Yn ?_ ?_; (focus (simp [hx', hne, hp, List.take_of_length_le]; done)); refine Yp ?_) | refine Yg ?_ | (simp only [X0, Nat.reduceBEq]) | clear hK K)
        refine hL (out ++ [p], i + 1, i + 1) _ _ ⟨by dsimp only; omega, by dsimp only; omega, by simp; omega, fun _ => ?_, fun h => by dsimp only at h; omega⟩ (by dsimp only; omega) ?_
        · dsimp only
          refine ⟨?_, by simp⟩
          rw [← hr, hd, hx, splitC_hit c p _ hno]
          simp
        · have : (out ++ [p]).map V.str = out.map V.str ++ [.str p] := by simp
          dsimp only
          rw [this]
          exact Yr [some 2] (by simp [rowsOver])
      · have hx' : ¬ ((s[i].toNat : Int) = c.toNat) := u8_ne hx
        have hne : ¬ (i : Int) = s.length := by omega
        repeat' (first | ((first | refine Yl rfl fun K9 h9 => ?_ | (refine Ym ?_ ?_; (focus (simp [hx', hne]; done)); intro K9 h9)); simp (disch := first | exact dd | fail) [hx', hne]; (try simp (disch := first | exact de | fail) only [X7]); ((repeat (refine Yz ?_)); (first | refine h9 _ _ (Yp ?_)); clear h9 K9)) | refine Yo ?_ | (refine Y8 fun K hK => ?_) | refine Yq ?_ | (apply hK; clear hK K) | refine Ya ?_ | (refine Yb rfl ?_ ?_ <;> intro hcnd <;> (try simp at hcnd) <;> try exact dc) | refine Yc ?_ | (refine Yd ?_; simp only [X0, Nat.reduceBEq]) | (refine Ye ?_; refine Yf ?_) | (refine Yn ?_ ?_; (focus (simp [hx', hne]; done)); refine Yp ?_) | refine Yg ?_ | (simp only [X0, Nat.reduceBEq]) | clear hK K)
        refine hL (out, a, i + 1) _ _ ⟨by dsimp only; omega, by dsimp only; omega, by dsimp only; omega, fun _ => ⟨hr, ?_⟩, fun h => by dsimp only at h; omega⟩ (by dsimp only; omega) ?_
        · dsimp only
          rw [take_next ha hi]
          simp only [List.mem_append, List.mem_singleton, not_or]
          exact ⟨hno, fun e => hx e.symm⟩
        · exact Yr [some 0] (by simp [rowsOver])
    · obtain rfl : i = s.length := by omega
      have hp : (s.drop a).take (s.length - a) = s.drop a := List.take_of_length_le (by simp)
      rw [hp] at hno
      repeat' (first | ((first | refine Yl rfl fun K9 h9 => ?_ | (refine Ym ?_ ?_; (focus (simp [hp, List.take_of_length_le]; done)); intro K9 h9)); simp (disch := first | exact dd | fail) [hp, List.take_of_length_le]; (try simp (disch := first | exact de | fail) only [X7]); ((repeat (refine Yz ?_)); (first | refine h9 _ _ (Yp ?_)); clear h9 K9)) | refine Yo ?_ | (refine Y8 fun K hK => ?_) | refine Yq ?_ | (apply hK; clear hK K) | refine Ya ?_ | (refine Yb rfl ?_ ?_ <;> intro hcnd <;> (try simp at hcnd) <;> try exact dc) | refine Yc ?_ | (refine Yd ?_; simp only [X0, Nat.reduceBEq]) | (refine Ye ?_; refine Yf ?_) | (refine Yn ?_ ?_; (focus (simp [hp, List.take_of_length_le]; done)); refine Yp ?_) | refine Yg ?_ | (simp only [X0, Nat.reduceBEq]) | clear hK K)
      refine hL (out ++ [s.drop a], s.length + 1, s.length + 1) _ _ ⟨by dsimp only; omega, by dsimp only; omega, by simp; omega, fun h => by dsimp only at h; omega, fun _ => ?_⟩ (by dsimp only; omega) ?_
      · dsimp only
        rw [← hr, splitC_not c _ hno]
      · have : (out ++ [s.drop a]).map V.str = out.map V.str ++ [.str (s.drop a)] := by simp
        dsimp only
        rw [this]
        exact Yr [some 2] (by simp [rowsOver])
  · simp
end Go.Proofs.YtcfmanhblonjeaaGreatDoor.Ho
namespace Go.Proofs.YtcfmanhblonjeaaGreatDoor.Ho
open Go.VS Go.Hst
set_option linter.all false
set_option maxRecDepth 100000
attribute [local irreducible] arun arunD arunU AWp aend
theorem rdns_call (s : List UInt8) (hs : s.length ≤ 1000000) : PCall Tryz.prog 81 [.str s] (.bool (dnsB s)) := by
  refine pcall_body Tryz.func81 rfl Tryz.call81 ?_ ?_
  rotate_left 1
  refine awp_slots (s' := (.str s : V) :: zJ 54) rfl ?_; dsimp only [zJ]
  by_cases h1 : (128 : Int) < s.length
  · repeat' (first | ((first | refine Yl rfl fun K9 h9 => ?_ | (refine Ym ?_ ?_; (focus (simp [h1]; done)); intro K9 h9)); simp (disch := first | exact dd | fail) [h1]; (try simp (disch := first | exact de | fail) only [X7]); ((repeat (refine Yz ?_)); (first | refine h9 _ _ (Yp ?_)); clear h9 K9)) | refine Yo ?_ | (refine Y8 fun K hK => ?_) | refine Yq ?_ | (apply hK; clear hK K) | refine Ya ?_ | (refine Yb rfl ?_ ?_ <;> intro hcnd <;> (try simp at hcnd) <;> try exact dc) | refine Yc ?_ | (refine Yd ?_; simp only [X0, Nat.reduceBEq]) | (refine Ye ?_; refine Yf ?_) | (refine Yn ?_ ?_; (focus (simp [h1]; done)); refine Yp ?_) | refine Yg ?_ | (simp only [X0, Nat.reduceBEq]) | clear hK K)
    have : dnsB s = false := by
      have : decide (s.length ≤ 128) = false := by simp; omega
      simp [dnsB, this]
    rw [this]
    exact .pure .bool
  have hdB : dnsB s = (splitC 46 s).all labelB := by
    have : decide (s.length ≤ 128) = true := by simp; omega
    simp [dnsB, this]
  rw [hdB]
  have hsp := rsplit_call s 46 hs
  rw [show byteV 46 = .int .u8 46 from rfl] at hsp
  have hlen := splitC_len 46 s
  have hcnt : s.count 46 ≤ s.length := List.count_le_length
  have hpc := splitC_piece 46 s
  generalize splitC 46 s = L at *
  have hLl : L.length ≤ 4294967281 := by omega
  repeat' (first | ((first | refine Yl rfl fun K9 h9 => ?_ | (refine Ym ?_ ?_; (focus (simp [h1]; done)); intro K9 h9)); simp (disch := first | exact dd | fail) [h1]; (try simp (disch := first | exact de | fail) only [X7]); ((first | refine Ap hsp ?_ | skip) <;> ((repeat (refine Yz ?_)); (first | refine h9 _ _ (Yp ?_)); clear h9 K9))) | refine Yo ?_ | (refine Y8 fun K hK => ?_) | refine Yq ?_ | (apply hK; clear hK K) | refine Ya ?_ | (refine Yb rfl ?_ ?_ <;> intro hcnd <;> (try simp at hcnd) <;> try exact dc) | refine Yc ?_ | (refine Yd ?_; simp only [X0, Nat.reduceBEq]) | (refine Ye ?_; refine Yf ?_) | (refine Yn ?_ ?_; (focus (simp [h1]; done)); refine Yp ?_) | refine Yg ?_ | (simp only [X0, Nat.reduceBEq]) | clear hK K)
  · refine awp_loopU (α := Nat) (fun i => (some V.junk :: none :: some V.junk :: none :: zS 6 (zN 2 (some (V.int .i64 i) :: zS 42 [])))) (fun i => []) (fun i => i ≤ L.length ∧ ∀ j (h : j < L.length), j < i → labelB L[j] = true) (fun i => L.length - i) 0 ⟨by omega, fun j _ h => by omega⟩ ?_ ?_
    · dsimp only [ups, zN, zS]
      exact Yr [] (by simp [rowsOver])
    rintro i ⟨hi, hall⟩ KL hL
    dsimp only [ups, zN, zS]
    rcases Nat.lt_or_ge i L.length with hi | hi
    · have hstep : labelB L[i] = true → i + 1 ≤ L.length ∧ ∀ j (h : j < L.length), j < i + 1 → labelB L[j] = true := fun hx => ⟨by omega, fun j hj h => by
        rcases Nat.lt_or_ge j i with h3 | h3
        · exact hall j hj h3
        · obtain rfl : j = i := by omega
          exact hx⟩
      have hfalse : labelB L[i] = false → L.all labelB = false := allL_false hi
      obtain ⟨l, hxx⟩ : ∃ x, L[i] = x := ⟨_, rfl⟩
      have hxl : l.length ≤ 4294967280 := by
        have := (hpc l (by rw [← hxx]; exact List.getElem_mem _)).2
        omega
      rw [hxx] at hstep hfalse
      by_cases h1 : l = []
      · subst h1
        repeat' (first | ((first | refine Yl rfl fun K9 h9 => ?_ | (refine Ym ?_ ?_; (focus (simp [hxx]; done)); intro K9 h9)); simp (disch := first | exact dd | fail) [hxx]; (try simp (disch := first | exact de | fail) only [X7]); ((repeat (refine Yz ?_)); (first | refine h9 _ _ (Yp ?_)); clear h9 K9)) | refine Yo ?_ | (refine Y8 fun K hK => ?_) | refine Yq ?_ | (apply hK; clear hK K) | refine Ya ?_ | (refine Yb rfl ?_ ?_ <;> intro hcnd <;> (try simp at hcnd) <;> try exact dc) | refine Yc ?_ | (refine Yd ?_; simp only [X0, Nat.reduceBEq]) | (refine Ye ?_; refine Yf ?_) | (refine Yn ?_ ?_; (focus (simp [hxx]; done)); refine Yp ?_) | refine Yg ?_ | (simp only [X0, Nat.reduceBEq]) | clear hK K)
        rw [hfalse (by rfl)]
        exact .pure .bool
      have hpos : 0 < l.length := List.length_pos_iff.2 h1
      replace h1 : ¬ (l.length : Int) < 1 := by omega
      by_cases h2 : (63 : Int) < l.length
      · repeat' (first | ((first | refine Yl rfl fun K9 h9 => ?_ | (refine Ym ?_ ?_; (focus (simp [h1, h2, hxx]; done)); intro K9 h9)); simp (disch := first | exact dd | fail) [h1, h2, hxx]; (try simp (disch := first | exact de | fail) only [X7]); ((repeat (refine Yz ?_)); (first | refine h9 _ _ (Yp ?_)); clear h9 K9)) | refine Yo ?_ | (refine Y8 fun K hK => ?_) | refine Yq ?_ | (apply hK; clear hK K) | refine Ya ?_ | (refine Yb rfl ?_ ?_ <;> intro hcnd <;> (try simp at hcnd) <;> try exact dc) | refine Yc ?_ | (refine Yd ?_; simp only [X0, Nat.reduceBEq]) | (refine Ye ?_; refine Yf ?_) | (refine Yn ?_ ?_; (focus (simp [h1, h2, hxx]; done)); refine Yp ?_) | refine Yg ?_ | (simp only [X0, Nat.reduceBEq]) | clear hK K)
        rw [hfalse (by
          have : decide (l.length ≤ 63) = false := by simp; omega
          simp [labelB, this])]
        exact .pure .bool
      have e1 : ((l.length : Int) - 1).toNat = l.length - 1 := by omega
      have g0 : l.getD 0 0 = l[0]'(by omega) := by simp [show 0 < l.length by omega]
      have g1 : l.getD (l.length - 1) 0 = l[l.length - 1]'(by omega) := by simp [show l.length - 1 < l.length by omega]
      by_cases h3 : ((l[0]'(by omega)).toNat : Int) = 45
      · repeat' (first | ((first | refine Yl rfl fun K9 h9 => ?_ | (refine Ym ?_ ?_; (focus (simp [h1, h2, h3, hxx]; done)); intro K9 h9)); simp (disch := first | exact dd | fail) [h1, h2, h3, hxx]; (try simp (disch := first | exact de | fail) only [X7]); ((repeat (refine Yz ?_)); (first | refine h9 _ _ (Yp ?_)); clear h9 K9)) | refine Yo ?_ | (refine Y8 fun K hK => ?_) | refine Yq ?_ | (apply hK; clear hK K) | refine Ya ?_ | (refine Yb rfl ?_ ?_ <;> intro hcnd <;> (try simp at hcnd) <;> try exact dc) | refine Yc ?_ | (refine Yd ?_; simp only [X0, Nat.reduceBEq]) | (refine Ye ?_; refine Yf ?_) | (refine Yn ?_ ?_; (focus (simp [h1, h2, h3, hxx]; done)); refine Yp ?_) | refine Yg ?_ | (simp only [X0, Nat.reduceBEq]) | clear hK K)
        rw [hfalse (by
          have : l[0]'(by omega) = 45 := u45.1 h3
          rw [labelB, g0, this]; simp)]
        exact .pure .bool
      by_cases h4 : ((l[l.length - 1]'(by omega)).toNat : Int) = 45
      · repeat' (first | ((first | refine Yl rfl fun K9 h9 => ?_ | (refine Ym ?_ ?_; (focus (simp [h1, h2, h3, h4, e1, hxx]; done)); intro K9 h9)); simp (disch := first | exact dd | fail) [h1, h2, h3, h4, e1, hxx]; (try simp (disch := first | exact de | fail) only [X7]); ((repeat (refine Yz ?_)); (first | refine h9 _ _ (Yp ?_)); clear h9 K9)) | refine Yo ?_ | (refine Y8 fun K hK => ?_) | refine Yq ?_ | (apply hK; clear hK K) | refine Ya ?_ | (refine Yb rfl ?_ ?_ <;> intro hcnd <;> (try simp at hcnd) <;> try exact dc) | refine Yc ?_ | (refine Yd ?_; simp only [X0, Nat.reduceBEq]) | (refine Ye ?_; refine Yf ?_) | (refine Yn ?_ ?_; (focus (simp [h1, h2, h3, h4, e1, hxx]; done)); refine Yp ?_) | refine Yg ?_ | (simp only [X0, Nat.reduceBEq]) | clear hK K)
        rw [hfalse (by
          have : l[l.length - 1]'(by omega) = 45 := u45.1 h4
          rw [labelB, g0, g1, this]; simp)]
        exact .pure .bool
      have hB : labelB l = l.all okL := by
        have q1 : decide (1 ≤ l.length) = true := by simp; omega
        have q2 : decide (l.length ≤ 63) = true := by simp; omega
        have q3 : l[0]'(by omega) ≠ 45 := fun e => h3 (u45.2 e)
        have q4 : l[l.length - 1]'(by omega) ≠ 45 := fun e => h4 (u45.2 e)
        rw [labelB, g0, g1, beq_false_of_ne q3, beq_false_of_ne q4, q1, q2]; rfl
      rw [hB] at hstep hfalse
      repeat' (first | ((first | refine Yl rfl fun K9 h9 => ?_ | (refine Ym ?_ ?_; (focus (simp [h1, h2, h3, h4, e1, hxx]; done)); intro K9 h9)); simp (disch := first | exact dd | fail) [h1, h2, h3, h4, e1, hxx]; (try simp (disch := first | exact de | fail) only [X7]); ((repeat (refine Yz ?_)); (first | refine h9 _ _ (Yp ?_)); clear h9 K9)) | refine Yo ?_ | (refine Y8 fun K hK => ?_) | refine Yq ?_ | (apply hK; clear hK K) | refine Ya ?_ | (refine Yb rfl ?_ ?_ <;> intro hcnd <;> (try simp at hcnd) <;> try exact dc) | refine Yc ?_ | (refine Yd ?_; simp only [X0, Nat.reduceBEq]) | (refine Ye ?_; refine Yf ?_) | (refine Yn ?_ ?_; (focus (simp [h1, h2, h3, h4, e1, hxx]; done)); refine Yp ?_) | refine Yg ?_ | (simp only [X0, Nat.reduceBEq]) | clear hK K)
      refine awp_loopU (α := Nat) (fun i => (some V.junk :: none :: some V.junk :: zN 2 (some (V.int .i64 i) :: zS 4 (zN 3 (zS 42 []))))) (fun i => []) (fun i => i ≤ l.length ∧ ∀ j (h : j < l.length), j < i → okL l[j] = true) (fun i => l.length - i) 0 ⟨by omega, fun j _ h => by omega⟩ ?_ ?_
      · dsimp only [ups, zN, zS]
        exact Yr [] (by simp [rowsOver])
      rintro j ⟨hj, hall2⟩ KL2 hL2
      dsimp only [ups, zN, zS]
      rcases Nat.lt_or_ge j l.length with hj | hj
      · have hstep2 : okL l[j] = true → j + 1 ≤ l.length ∧ ∀ k (h : k < l.length), k < j + 1 → okL l[k] = true := fun hx => ⟨by omega, fun k hk h => by
          rcases Nat.lt_or_ge k j with h3 | h3
          · exact hall2 k hk h3
          · obtain rfl : k = j := by omega
            exact hx⟩
        have hfalse2 : okL l[j] = false → l.all okL = false := all_false hj
        obtain ⟨c, hcc⟩ : ∃ c, l[j] = c := ⟨_, rfl⟩
        rw [hcc] at hstep2 hfalse2
        cases hc1 : okB c
        · by_cases hc3 : (c.toNat : Int) = 45
          · have ha45 : PCall Tryz.prog 106 [.int .u8 45] (.bool false) := alnum_call 45
            repeat' (first | ((first | refine Yl rfl fun K9 h9 => ?_ | (refine Ym ?_ ?_; (focus (simp [hcc, hc1, hc3]; done)); intro K9 h9)); simp (disch := first | exact dd | fail) [hcc, hc1, hc3]; (try simp (disch := first | exact de | fail) only [X7]); ((first | refine Ap ha45 ?_ | skip) <;> ((repeat (refine Yz ?_)); (first | refine h9 _ _ (Yp ?_)); clear h9 K9))) | refine Yo ?_ | (refine Y8 fun K hK => ?_) | refine Yq ?_ | (apply hK; clear hK K) | refine Ya ?_ | (refine Yb rfl ?_ ?_ <;> intro hcnd <;> (try simp at hcnd) <;> try exact dc) | refine Yc ?_ | (refine Yd ?_; simp only [X0, Nat.reduceBEq]) | (refine Ye ?_; refine Yf ?_) | (refine Yn ?_ ?_; (focus (simp [hcc, hc1, hc3]; done)); refine Yp ?_) | refine Yg ?_ | (simp only [X0, Nat.reduceBEq]) | clear hK K)
            have : c = 45 := u45.1 hc3
            refine hL2 (j + 1) _ _ (hstep2 (by simp [okL, this])) (by omega) ?_
            exact Yr [] (by simp [rowsOver])
          · repeat' (first | ((first | refine Yl rfl fun K9 h9 => ?_ | (refine Ym ?_ ?_; (focus (simp [hcc, hc1, hc3]; done)); intro K9 h9)); simp (disch := first | exact dd | fail) [hcc, hc1, hc3]; (try simp (disch := first | exact de | fail) only [X7]); ((first | refine Ap (alnum_call c) ?_ | skip) <;> ((repeat (refine Yz ?_)); (first | refine h9 _ _ (Yp ?_)); clear h9 K9))) | refine Yo ?_ | (refine Y8 fun K hK => ?_) | refine Yq ?_ | (apply hK; clear hK K) | refine Ya ?_ | (refine Yb rfl ?_ ?_ <;> intro hcnd <;> (try simp at hcnd) <;> try exact dc) | refine Yc ?_ | (refine Yd ?_; simp only [X0, Nat.reduceBEq]) | (refine Ye ?_; refine Yf ?_) | (refine Yn ?_ ?_; (focus (simp [hcc, hc1, hc3]; done)); refine Yp ?_) | refine Yg ?_ | (simp only [X0, Nat.reduceBEq]) | clear hK K)
            have hne : ¬ c = 45 := fun e => hc3 (u45.2 e)
            rw [hfalse (hfalse2 (by simp [okL, hc1, hne]))]
            exact .pure .bool
        · repeat' (first | ((first | refine Yl rfl fun K9 h9 => ?_ | (refine Ym ?_ ?_; (focus (simp [hcc, hc1]; done)); intro K9 h9)); simp (disch := first | exact dd | fail) [hcc, hc1]; (try simp (disch := first | exact de | fail) only [X7]); ((first | refine Ap (alnum_call c) ?_ | skip) <;> ((repeat (refine Yz ?_)); (first | refine h9 _ _ (Yp ?_)); clear h9 K9))) | refine Yo ?_ | (refine Y8 fun K hK => ?_) | refine Yq ?_ | (apply hK; clear hK K) | refine Ya ?_ | (refine Yb rfl ?_ ?_ <;> intro hcnd <;> (try simp at hcnd) <;> try exact dc) | refine Yc ?_ | (refine Yd ?_; simp only [X0, Nat.reduceBEq]) | (refine Ye ?_; refine Yf ?_) | (refine Yn ?_ ?_; (focus (simp [hcc, hc1]; done)); refine Yp ?_) | refine Yg ?_ | (simp only [X0, Nat.reduceBEq]) | clear hK K)
          refine hL2 (j + 1) _ _ (hstep2 (by simp [okL, hc1])) (by omega) ?_
          exact Yr [] (by simp [rowsOver])
      · repeat' (first | ((first | refine Yl rfl fun K9 h9 => ?_ | (refine Ym ?_ ?_; (focus (simp; done)); intro K9 h9)); simp (disch := first | exact dd | fail); (try simp (disch := first | exact de | fail) only [X7]); ((repeat (refine Yz ?_)); (first | refine h9 _ _ (Yp ?_)); clear h9 K9)) | refine Yo ?_ | (refine Y8 fun K hK => ?_) | refine Yq ?_ | (apply hK; clear hK K) | refine Ya ?_ | (refine Yb rfl ?_ ?_ <;> intro hcnd <;> (try simp at hcnd) <;> try exact dc) | refine Yc ?_ | (refine Yd ?_; simp only [X0, Nat.reduceBEq]) | (refine Ye ?_; refine Yf ?_) | (refine Yn ?_ ?_; (focus (simp; done)); refine Yp ?_) | refine Yg ?_ | (simp only [X0, Nat.reduceBEq]) | clear hK K)
        refine hL (i + 1) _ _ (hstep (all_true fun k hk => hall2 k hk (by omega))) (by omega) ?_
        exact Yr [] (by simp [rowsOver])
    · repeat' (first | ((first | refine Yl rfl fun K9 h9 => ?_ | (refine Ym ?_ ?_; (focus (simp; done)); intro K9 h9)); simp (disch := first | exact dd | fail); (try simp (disch := first | exact de | fail) only [X7]); ((repeat (refine Yz ?_)); (first | refine h9 _ _ (Yp ?_)); clear h9 K9)) | refine Yo ?_ | (refine Y8 fun K hK => ?_) | refine Yq ?_ | (apply hK; clear hK K) | refine Ya ?_ | (refine Yb rfl ?_ ?_ <;> intro hcnd <;> (try simp at hcnd) <;> try exact dc) | refine Yc ?_ | (refine Yd ?_; simp only [X0, Nat.reduceBEq]) | (refine Ye ?_; refine Yf ?_) | (refine Yn ?_ ?_; (focus (simp; done)); refine Yp ?_) | refine Yg ?_ | (simp only [X0, Nat.reduceBEq]) | clear hK K)
      rw [allL_true fun j hj => hall j hj (by omega)]
      exact .pure .bool
  · exact .bool
end Go.Proofs.YtcfmanhblonjeaaGreatDoor.Ho
namespace Go.Proofs.YtcfmanhblonjeaaGreatDoor.Ho
open Go.VS Go.Hst
set_option linter.all false
set_option maxRecDepth 100000
attribute [local irreducible] arun arunD arunU AWp aend
theorem dns_parts {s : List UInt8} (h : dnsB s = true) : s.length ≤ 128 ∧ ∀ p ∈ splitC 46 s, labelB p = true := by
  simp only [dnsB, Bool.and_eq_true, decide_eq_true_eq, List.all_eq_true] at h
  exact h
theorem label_parts {l : List UInt8} (h : labelB l = true) : l ≠ [] ∧ ∀ c ∈ l, okL c = true := by
  simp only [labelB, Bool.and_eq_true, decide_eq_true_eq, List.all_eq_true] at h
  exact ⟨fun e => by subst e; simp at h, h.2.2.2.2⟩
theorem dns_chars {s : List UInt8} (h : dnsB s = true) : ∀ x ∈ s, x = 46 ∨ okL x = true := by
  intro x hx
  rcases splitC_mem 46 s x hx with h1 | ⟨p, h1, h2⟩
  · exact .inl h1
  · exact .inr ((label_parts ((dns_parts h).2 p h1)).2 x h2)
theorem dns_nil : dnsB [] = false := rfl
theorem dns_bad {s : List UInt8} (c : UInt8) (h1 : c ≠ 46) (h2 : okL c = false) (hm : c ∈ s) : dnsB s = false := by
  cases h : dnsB s with
  | false => rfl
  | true =>
    rcases dns_chars h c hm with h3 | h3
    · exact absurd h3 h1
    · rw [h2] at h3; cases h3
theorem dns_star (l : List UInt8) : dnsB (42 :: l) = false := dns_bad 42 (by decide) (by decide) (by simp)

def patS (s : List UInt8) : Bool := decide (s.length ≤ 128) && (dnsB (Lib.trimPrefix s [42, 46]) && decide (46 ∈ Lib.trimPrefix s [42, 46]))
def patB (s : List UInt8) : Bool := if Lib.hasPrefix s [42, 46] = true then patS s else dnsB s
theorem pre_iff {s : List UInt8} : Lib.hasPrefix s [42, 46] = true ↔ ∃ r, s = 42 :: 46 :: r := by
  unfold Lib.hasPrefix
  rw [List.isPrefixOf_iff_prefix]
  constructor
  · rintro ⟨r, rfl⟩; exact ⟨r, rfl⟩
  · rintro ⟨r, rfl⟩; exact ⟨r, rfl⟩
theorem pre_tail (r : List UInt8) : Lib.trimPrefix (42 :: 46 :: r) [42, 46] = r := by
  unfold Lib.trimPrefix
  rw [if_pos (pre_iff.2 ⟨r, rfl⟩)]
  rfl
def rpatB (s : List UInt8) : Bool := dnsB s || (decide (s.length ≤ 128) && (decide (2 < s.length) && (s.take 2 == [42, 46] && (dnsB (s.drop 2) && decide (2 < (splitC 46 s).length)))))
theorem rpat_eq (s : List UInt8) : rpatB s = patB s := by
  unfold rpatB patB
  by_cases hp : Lib.hasPrefix s [42, 46] = true
  · obtain ⟨r, rfl⟩ := pre_iff.1 hp
    rw [if_pos hp, patS, pre_tail, dns_star]
    simp only [Bool.false_or]
    congr 1
    have h2 : (List.take 2 (42 :: 46 :: r) == [42, 46]) = true := by simp
    have h3 : List.drop 2 (42 :: 46 :: r) = r := rfl
    rw [h2, h3, splitC_len]
    have h4 : (42 :: 46 :: r : List UInt8).count 46 = r.count 46 + 1 := by
      rw [List.count_cons_of_ne (by decide), List.count_cons_self]
    rw [h4]
    cases hd : dnsB r
    · simp
    · have hne : r ≠ [] := fun e => by subst e; simp [dns_nil] at hd
      have := List.length_pos_iff.2 hne
      have h5 : decide (2 < (42 :: 46 :: r : List UInt8).length) = true := by simp; omega
      rw [h5]
      simp only [Bool.true_and]
      by_cases hm : 46 ∈ r
      · have := List.count_pos_iff.2 hm
        simp [hm]
      · have := List.count_eq_zero.2 hm
        simp [hm, this]
  · rw [if_neg hp]
    have : (s.take 2 == [42, 46]) = false := by
      cases h : (s.take 2 == [42, 46]) with
      | false => rfl
      | true =>
        exfalso
        apply hp
        refine pre_iff.2 ⟨s.drop 2, ?_⟩
        have h := beq_iff_eq.1 h
        conv => lhs; rw [← List.take_append_drop 2 s, h]
        rfl
    rw [this]
    simp
theorem pat_head {s : List UInt8} (h : patB s = true) : s ≠ [] := by
  rintro rfl
  exact absurd h (by decide)
def matchB (p s : List UInt8) : Bool := patB p && (dnsB s && (eqB p s || (Lib.hasPrefix p [42, 46] && (decide (46 ∈ s) && eqB (aftC 46 s) (Lib.trimPrefix p [42, 46])))))
theorem splitC_head (c : UInt8) : ∀ s : List UInt8, ∃ t, splitC c s = befC c s :: t
  | [] => ⟨[], rfl⟩
  | b :: l => by
    obtain ⟨t, ht⟩ := splitC_head c l
    unfold splitC
    by_cases hb : b = c
    · subst hb; exact ⟨splitC b l, by simp [befC]⟩
    · rw [if_neg hb, ht]
      exact ⟨t, by simp [befC, hb]⟩
theorem bef_lt (c : UInt8) (s : List UInt8) : (befC c s).length < s.length ↔ c ∈ s := by
  constructor
  · intro h
    by_cases hm : c ∈ s
    · exact hm
    · rw [bef_all c s hm] at h; omega
  · intro hm
    have := congrArg List.length (bef_aft c s hm)
    simp at this
    omega
theorem low_cons (c : UInt8) (l : List UInt8) : low (c :: l) = lowB c :: low l := rfl
theorem lowB_star (c : UInt8) : lowB c = 42 ↔ c = 42 := by
  by_cases h : 65 ≤ c.toNat ∧ c.toNat ≤ 90
  · have := lowB_up c h
    constructor
    · intro e; rw [e] at this; have : (42 : UInt8).toNat = 42 := rfl; omega
    · rintro rfl; exact absurd h (by decide)
  · rw [lowB_id c h]
def rmatchB (p s : List UInt8) : Bool := patB p && (dnsB s && (if p.getD 0 0 = 42 then decide ((befC 46 s).length < s.length) && eqB (s.drop (befC 46 s).length) (p.drop 1) else eqB p s))
theorem rmatch_eq (p s : List UInt8) : rmatchB p s = matchB p s := by
  unfold rmatchB matchB
  cases hp : patB p
  · rfl
  cases hs : dnsB s
  · rfl
  simp only [Bool.true_and]
  by_cases h : p.getD 0 0 = 42
  · rw [if_pos h]
    have hpre : Lib.hasPrefix p [42, 46] = true := by
      cases hq : Lib.hasPrefix p [42, 46] with
      | true => rfl
      | false =>
        rw [patB, if_neg (by simp [hq])] at hp
        match p, h, hp with
        | [], h, _ => simp at h
        | a :: l, h, hp =>
          have : a = 42 := by simpa using h
          subst this
          rw [dns_star] at hp; cases hp
    obtain ⟨r, rfl⟩ := pre_iff.1 hpre
    rw [hpre, pre_tail]
    have hne : eqB (42 :: 46 :: r) s = false := by
      cases he : eqB (42 :: 46 :: r) s with
      | false => rfl
      | true =>
        exfalso
        have he := beq_iff_eq.1 he
        match s, he, hs with
        | [], he, hs => simp [low] at he
        | c :: t, he, hs =>
          rw [low_cons, low_cons] at he
          have hc := (lowB_star c).1 ((List.cons.inj he).1 ▸ by decide)
          subst hc
          rw [dns_star] at hs; cases hs
    rw [hne]
    simp only [Bool.false_or, Bool.true_and]
    by_cases hm : 46 ∈ s
    · have h1 : decide ((befC 46 s).length < s.length) = true := by simpa using (bef_lt 46 s).2 hm
      have hd : s.drop (befC 46 s).length = 46 :: aftC 46 s := by
        conv => lhs; arg 2; rw [bef_aft 46 s hm]
        simp
      rw [h1, hd]
      simp only [hm, decide_true, Bool.true_and, List.drop_succ_cons, List.drop_zero]
      unfold eqB
      rw [low_cons, low_cons]
      simp
    · have h1 : decide ((befC 46 s).length < s.length) = false := by simpa using fun h => hm ((bef_lt 46 s).1 h)
      rw [h1]
      simp [hm]
  · rw [if_neg h]
    have hpre : Lib.hasPrefix p [42, 46] = false := by
      cases hq : Lib.hasPrefix p [42, 46] with
      | false => rfl
      | true => obtain ⟨r, rfl⟩ := pre_iff.1 hq; simp at h
    rw [hpre]
    simp

theorem trimPrefix_len (s p : List UInt8) : (Lib.trimPrefix s p).length ≤ s.length := by
  unfold Lib.trimPrefix; split <;> simp
theorem pattern_call (s : List UInt8) (hs : s.length ≤ 1000000) : PCall Tryz.prog 70 [.str s] (.bool (patB s)) := by
  refine pcall_body Tryz.func70 rfl Tryz.call70 ?_ ?_
  rotate_left 1
  refine awp_slots (s' := (.str s : V) :: zJ 23) rfl ?_; dsimp only [zJ]
  have hl := trimPrefix_len s [42, 46]
  have hc := cutPrefix_call s [42, 46]
  have hk := contains_call (Lib.trimPrefix s [42, 46]) [46] (by omega)
  rw [contains_one] at hk
  have hd1 := dns_call (Lib.trimPrefix s [42, 46]) (by omega)
  have hd2 := dns_call s (by omega)
  unfold patB patS
  generalize Lib.trimPrefix s [42, 46] = r at *
  cases hp : Lib.hasPrefix s [42, 46]
  · repeat' (first | ((first | refine Yl rfl fun K9 h9 => ?_ | (refine Ym ?_ ?_; (focus (simp [hp]; done)); intro K9 h9)); simp (disch := first | exact dd | fail) [hp]; (try simp (disch := first | exact de | fail) only [X7]); ((first | refine Ap hc ?_ | refine Ap hd2 ?_ | skip) <;> ((repeat (refine Yz ?_)); (first | refine h9 _ _ (Yp ?_)); clear h9 K9))) | refine Yo ?_ | (refine Y8 fun K hK => ?_) | refine Yq ?_ | (apply hK; clear hK K) | (refine Yb rfl ?_ ?_ <;> intro hcnd <;> (try simp at hcnd) <;> try exact dc) | refine Yc ?_ | (refine Ye ?_; refine Yf ?_) | (refine Yn ?_ ?_; (focus (simp [hp]; done)); refine Yp ?_) | refine Yg ?_ | (simp only [X0, Nat.reduceBEq]) | clear hK K)
    exact .pure .bool
  · by_cases h1 : (s.length : Int) ≤ 128
    · have h1' : decide (s.length ≤ 128) = true := by simp; omega
      rw [h1']
      cases hd : dnsB r
      · repeat' (first | ((first | refine Yl rfl fun K9 h9 => ?_ | (refine Ym ?_ ?_; (focus (simp [hp, h1, hd]; done)); intro K9 h9)); simp (disch := first | exact dd | fail) [hp, h1, hd]; (try simp (disch := first | exact de | fail) only [X7]); ((first | refine Ap hc ?_ | refine Ap hd1 ?_ | refine Ap hk ?_ | skip) <;> ((repeat (refine Yz ?_)); (first | refine h9 _ _ (Yp ?_)); clear h9 K9))) | refine Yo ?_ | (refine Y8 fun K hK => ?_) | refine Yq ?_ | (apply hK; clear hK K) | (refine Yb rfl ?_ ?_ <;> intro hcnd <;> (try simp at hcnd) <;> try exact dc) | refine Yc ?_ | (refine Ye ?_; refine Yf ?_) | (refine Yn ?_ ?_; (focus (simp [hp, h1, hd]; done)); refine Yp ?_) | refine Yg ?_ | (simp only [X0, Nat.reduceBEq]) | clear hK K)
        exact .pure .bool
      · repeat' (first | ((first | refine Yl rfl fun K9 h9 => ?_ | (refine Ym ?_ ?_; (focus (simp [hp, h1, hd]; done)); intro K9 h9)); simp (disch := first | exact dd | fail) [hp, h1, hd]; (try simp (disch := first | exact de | fail) only [X7]); ((first | refine Ap hc ?_ | refine Ap hd1 ?_ | refine Ap hk ?_ | skip) <;> ((repeat (refine Yz ?_)); (first | refine h9 _ _ (Yp ?_)); clear h9 K9))) | refine Yo ?_ | (refine Y8 fun K hK => ?_) | refine Yq ?_ | (apply hK; clear hK K) | (refine Yb rfl ?_ ?_ <;> intro hcnd <;> (try simp at hcnd) <;> try exact dc) | refine Yc ?_ | (refine Ye ?_; refine Yf ?_) | (refine Yn ?_ ?_; (focus (simp [hp, h1, hd]; done)); refine Yp ?_) | refine Yg ?_ | (simp only [X0, Nat.reduceBEq]) | clear hK K)
        exact .pure .bool
    · have h1' : decide (s.length ≤ 128) = false := by simp; omega
      rw [h1']
      repeat' (first | ((first | refine Yl rfl fun K9 h9 => ?_ | (refine Ym ?_ ?_; (focus (simp [hp, h1]; done)); intro K9 h9)); simp (disch := first | exact dd | fail) [hp, h1]; (try simp (disch := first | exact de | fail) only [X7]); ((first | refine Ap hc ?_ | refine Ap hd1 ?_ | refine Ap hk ?_ | skip) <;> ((repeat (refine Yz ?_)); (first | refine h9 _ _ (Yp ?_)); clear h9 K9))) | refine Yo ?_ | (refine Y8 fun K hK => ?_) | refine Yq ?_ | (apply hK; clear hK K) | (refine Yb rfl ?_ ?_ <;> intro hcnd <;> (try simp at hcnd) <;> try exact dc) | refine Yc ?_ | (refine Ye ?_; refine Yf ?_) | (refine Yn ?_ ?_; (focus (simp [hp, h1]; done)); refine Yp ?_) | refine Yg ?_ | (simp only [X0, Nat.reduceBEq]) | clear hK K)
      exact .pure .bool
  · exact .bool

theorem rpattern_call (s : List UInt8) (hs : s.length ≤ 1000000) : PCall Tryz.prog 80 [.str s] (.bool (patB s)) := by
  rw [← rpat_eq]
  refine pcall_body Tryz.func80 rfl Tryz.call80 ?_ ?_
  rotate_left 1
  refine awp_slots (s' := (.str s : V) :: zJ 30) rfl ?_; dsimp only [zJ]
  have hd1 := rdns_call s hs
  have hd2 := rdns_call (s.drop 2) (by simp; omega)
  have hsp := rsplit_call s 46 hs
  rw [show byteV 46 = .int .u8 46 from rfl] at hsp
  unfold rpatB
  cases h0 : dnsB s
  · by_cases h1 : (s.length : Int) ≤ 128
    · have h1' : decide (s.length ≤ 128) = true := by simp; omega
      rw [h1']
      by_cases h2 : (2 : Int) < s.length
      · have h2' : decide (2 < s.length) = true := by simp; omega
        rw [h2']
        cases h3 : (s.take 2 == [42, 46])
        · repeat' (first | ((first | refine Yl rfl fun K9 h9 => ?_ | (refine Ym ?_ ?_; (focus (simp [h0, h1, h2, h3]; done)); intro K9 h9)); simp (disch := first | exact dd | fail) [h0, h1, h2, h3]; (try simp (disch := first | exact de | fail) only [X7]); ((first | refine Ap hd1 ?_ | refine Ap hd2 ?_ | refine Ap hsp ?_ | skip) <;> ((repeat (refine Yz ?_)); (first | refine h9 _ _ (Yp ?_)); clear h9 K9))) | refine Yo ?_ | (refine Y8 fun K hK => ?_) | refine Yq ?_ | (apply hK; clear hK K) | (refine Ye ?_; refine Yf ?_) | (refine Yn ?_ ?_; (focus (simp [h0, h1, h2, h3]; done)); refine Yp ?_) | refine Yg ?_ | (simp only [X0, Nat.reduceBEq]) | clear hK K)
          exact .pure .bool
        · cases h4 : dnsB (s.drop 2)
          · repeat' (first | ((first | refine Yl rfl fun K9 h9 => ?_ | (refine Ym ?_ ?_; (focus (simp [h0, h1, h2, h3, h4, List.take_of_length_le]; done)); intro K9 h9)); simp (disch := first | exact dd | fail) [h0, h1, h2, h3, h4, List.take_of_length_le]; (try simp (disch := first | exact de | fail) only [X7]); ((first | refine Ap hd1 ?_ | refine Ap hd2 ?_ | refine Ap hsp ?_ | skip) <;> ((repeat (refine Yz ?_)); (first | refine h9 _ _ (Yp ?_)); clear h9 K9))) | refine Yo ?_ | (refine Y8 fun K hK => ?_) | refine Yq ?_ | (apply hK; clear hK K) | (refine Ye ?_; refine Yf ?_) | (refine Yn ?_ ?_; (focus (simp [h0, h1, h2, h3, h4, List.take_of_length_le]; done)); refine Yp ?_) | refine Yg ?_ | (simp only [X0, Nat.reduceBEq]) | clear hK K)
            exact .pure .bool
          · have hcast : decide ((2 : Int) < (splitC 46 s).length) = decide (2 < (splitC 46 s).length) := by simp; omega
            repeat' (first | ((first | refine Yl rfl fun K9 h9 => ?_ | (refine Ym ?_ ?_; (focus (simp [h0, h1, h2, h3, h4, hcast, List.take_of_length_le]; done)); intro K9 h9)); simp (disch := first | exact dd | fail) [h0, h1, h2, h3, h4, hcast, List.take_of_length_le]; (try simp (disch := first | exact de | fail) only [X7]); ((first | refine Ap hd1 ?_ | refine Ap hd2 ?_ | refine Ap hsp ?_ | skip) <;> ((repeat (refine Yz ?_)); (first | refine h9 _ _ (Yp ?_)); clear h9 K9))) | refine Yo ?_ | (refine Y8 fun K hK => ?_) | refine Yq ?_ | (apply hK; clear hK K) | (refine Ye ?_; refine Yf ?_) | (refine Yn ?_ ?_; (focus (simp [h0, h1, h2, h3, h4, hcast, List.take_of_length_le]; done)); refine Yp ?_) | refine Yg ?_ | (simp only [X0, Nat.reduceBEq]) | clear hK K)
            exact .pure .bool
      · have h2' : decide (2 < s.length) = false := by simp; omega
        rw [h2']
        repeat' (first | ((first | refine Yl rfl fun K9 h9 => ?_ | (refine Ym ?_ ?_; (focus (simp [h0, h1, h2]; done)); intro K9 h9)); simp (disch := first | exact dd | fail) [h0, h1, h2]; (try simp (disch := first | exact de | fail) only [X7]); ((first | refine Ap hd1 ?_ | skip) <;> ((repeat (refine Yz ?_)); (first | refine h9 _ _ (Yp ?_)); clear h9 K9))) | refine Yo ?_ | (refine Y8 fun K hK => ?_) | refine Yq ?_ | (apply hK; clear hK K) | (refine Ye ?_; refine Yf ?_) | (refine Yn ?_ ?_; (focus (simp [h0, h1, h2]; done)); refine Yp ?_) | refine Yg ?_ | (simp only [X0, Nat.reduceBEq]) | clear hK K)
        exact .pure .bool
    · have h1' : decide (s.length ≤ 128) = false := by simp; omega
      rw [h1']
      repeat' (first | ((first | refine Yl rfl fun K9 h9 => ?_ | (refine Ym ?_ ?_; (focus (simp [h0, h1]; done)); intro K9 h9)); simp (disch := first | exact dd | fail) [h0, h1]; (try simp (disch := first | exact de | fail) only [X7]); ((first | refine Ap hd1 ?_ | skip) <;> ((repeat (refine Yz ?_)); (first | refine h9 _ _ (Yp ?_)); clear h9 K9))) | refine Yo ?_ | (refine Y8 fun K hK => ?_) | refine Yq ?_ | (apply hK; clear hK K) | (refine Ye ?_; refine Yf ?_) | (refine Yn ?_ ?_; (focus (simp [h0, h1]; done)); refine Yp ?_) | refine Yg ?_ | (simp only [X0, Nat.reduceBEq]) | clear hK K)
      exact .pure .bool
  · repeat' (first | ((first | refine Yl rfl fun K9 h9 => ?_ | (refine Ym ?_ ?_; (focus (simp [h0]; done)); intro K9 h9)); simp (disch := first | exact dd | fail) [h0]; (try simp (disch := first | exact de | fail) only [X7]); ((first | refine Ap hd1 ?_ | skip) <;> ((repeat (refine Yz ?_)); (first | refine h9 _ _ (Yp ?_)); clear h9 K9))) | refine Yo ?_ | (refine Y8 fun K hK => ?_) | refine Yq ?_ | (apply hK; clear hK K) | (refine Ye ?_; refine Yf ?_) | (refine Yn ?_ ?_; (focus (simp [h0]; done)); refine Yp ?_) | refine Yg ?_ | (simp only [X0, Nat.reduceBEq]) | clear hK K)
    exact .pure .bool
  · exact .bool
end Go.Proofs.YtcfmanhblonjeaaGreatDoor.Ho
namespace Go.Proofs.YtcfmanhblonjeaaGreatDoor.Ho
open Go.VS Go.Hst
set_option linter.all false
set_option maxRecDepth 100000
attribute [local irreducible] arun arunD arunU AWp aend
set_option maxHeartbeats 4000000
theorem match_call (p s : List UInt8) (hp : p.length ≤ 1000000) (hs : s.length ≤ 1000000) : PCall Tryz.prog 55 [.str p, .str s] (.bool (matchB p s)) := by
  refine pcall_body Tryz.func55 rfl Tryz.call55 ?_ ?_
  rotate_left 1
  refine awp_slots (s' := (.str p : V) :: (.str s : V) :: zJ 39) rfl ?_; dsimp only [zJ]
  have hl := trimPrefix_len p [42, 46]
  have hla := aft_len 46 s
  have hc1 := pattern_call p hp
  have hc2 := dns_call s (by omega)
  have hc3 := equal_call p s (by omega) (by omega)
  have hc4 := cutPrefix_call p [42, 46]
  have hc5 := cut_call s 46 (by omega)
  have hc6 := equal_call (aftC 46 s) (Lib.trimPrefix p [42, 46]) (by omega) (by omega)
  unfold matchB
  generalize Lib.trimPrefix p [42, 46] = r at *
  cases h1 : patB p <;> rw [h1] at hc1
  · repeat' (first | ((first | refine Yl rfl fun K9 h9 => ?_ | (refine Ym ?_ ?_; (focus (simp [h1]; done)); intro K9 h9)); simp (disch := first | exact dd | fail) [h1]; (try simp (disch := first | exact de | fail) only [X7]); ((first | refine Ap hc1 ?_ | skip) <;> ((repeat (refine Yz ?_)); (first | refine h9 _ _ (Yp ?_)); clear h9 K9))) | refine Yo ?_ | (refine Y8 fun K hK => ?_) | refine Yq ?_ | (apply hK; clear hK K) | (refine Yb rfl ?_ ?_ <;> intro hcnd <;> (try simp at hcnd) <;> try exact dc) | refine Yc ?_ | (refine Ye ?_; refine Yf ?_) | (refine Yn ?_ ?_; (focus (simp [h1]; done)); refine Yp ?_) | refine Yg ?_ | (simp only [X0, Nat.reduceBEq]) | clear hK K)
    exact .pure .bool
  cases h2 : dnsB s <;> rw [h2] at hc2
  · repeat' (first | ((first | refine Yl rfl fun K9 h9 => ?_ | (refine Ym ?_ ?_; (focus (simp [h1, h2]; done)); intro K9 h9)); simp (disch := first | exact dd | fail) [h1, h2]; (try simp (disch := first | exact de | fail) only [X7]); ((first | refine Ap hc1 ?_ | refine Ap hc2 ?_ | skip) <;> ((repeat (refine Yz ?_)); (first | refine h9 _ _ (Yp ?_)); clear h9 K9))) | refine Yo ?_ | (refine Y8 fun K hK => ?_) | refine Yq ?_ | (apply hK; clear hK K) | (refine Yb rfl ?_ ?_ <;> intro hcnd <;> (try simp at hcnd) <;> try exact dc) | refine Yc ?_ | (refine Ye ?_; refine Yf ?_) | (refine Yn ?_ ?_; (focus (simp [h1, h2]; done)); refine Yp ?_) | refine Yg ?_ | (simp only [X0, Nat.reduceBEq]) | clear hK K)
    exact .pure .bool
  cases h3 : eqB p s <;> rw [h3] at hc3
  · cases h4 : Lib.hasPrefix p [42, 46] <;> rw [h4] at hc4
    · repeat' (first | ((first | refine Yl rfl fun K9 h9 => ?_ | (refine Ym ?_ ?_; (focus (simp [h1, h2, h3, h4]; done)); intro K9 h9)); simp (disch := first | exact dd | fail) [h1, h2, h3, h4]; (try simp (disch := first | exact de | fail) only [X7]); ((first | refine Ap hc1 ?_ | refine Ap hc2 ?_ | refine Ap hc3 ?_ | refine Ap hc4 ?_ | refine Ap hc5 ?_ | skip) <;> ((repeat (refine Yz ?_)); (first | refine h9 _ _ (Yp ?_)); clear h9 K9))) | refine Yo ?_ | (refine Y8 fun K hK => ?_) | refine Yq ?_ | (apply hK; clear hK K) | (refine Yb rfl ?_ ?_ <;> intro hcnd <;> (try simp at hcnd) <;> try exact dc) | refine Yc ?_ | (refine Ye ?_; refine Yf ?_) | (refine Yn ?_ ?_; (focus (simp [h1, h2, h3, h4]; done)); refine Yp ?_) | refine Yg ?_ | (simp only [X0, Nat.reduceBEq]) | clear hK K)
      exact .pure .bool
    · by_cases h5 : 46 ∈ s
      · have h5' : decide (46 ∈ s) = true := by simpa using h5
        rw [h5'] at hc5
        repeat' (first | ((first | refine Yl rfl fun K9 h9 => ?_ | (refine Ym ?_ ?_; (focus (simp [h1, h2, h3, h4, h5]; done)); intro K9 h9)); simp (disch := first | exact dd | fail) [h1, h2, h3, h4, h5]; (try simp (disch := first | exact de | fail) only [X7]); ((first | refine Ap hc1 ?_ | refine Ap hc2 ?_ | refine Ap hc3 ?_ | refine Ap hc4 ?_ | refine Ap hc5 ?_ | refine Ap hc6 ?_ | skip) <;> ((repeat (refine Yz ?_)); (first | refine h9 _ _ (Yp ?_)); clear h9 K9))) | refine Yo ?_ | (refine Y8 fun K hK => ?_) | refine Yq ?_ | (apply hK; clear hK K) | (refine Yb rfl ?_ ?_ <;> intro hcnd <;> (try simp at hcnd) <;> try exact dc) | refine Yc ?_ | (refine Ye ?_; refine Yf ?_) | (refine Yn ?_ ?_; (focus (simp [h1, h2, h3, h4, h5]; done)); refine Yp ?_) | refine Yg ?_ | (simp only [X0, Nat.reduceBEq]) | clear hK K)
        rw [h5']
        exact .pure .bool
      · have h5' : decide (46 ∈ s) = false := by simpa using h5
        rw [h5'] at hc5
        repeat' (first | ((first | refine Yl rfl fun K9 h9 => ?_ | (refine Ym ?_ ?_; (focus (simp [h1, h2, h3, h4, h5]; done)); intro K9 h9)); simp (disch := first | exact dd | fail) [h1, h2, h3, h4, h5]; (try simp (disch := first | exact de | fail) only [X7]); ((first | refine Ap hc1 ?_ | refine Ap hc2 ?_ | refine Ap hc3 ?_ | refine Ap hc4 ?_ | refine Ap hc5 ?_ | refine Ap hc6 ?_ | skip) <;> ((repeat (refine Yz ?_)); (first | refine h9 _ _ (Yp ?_)); clear h9 K9))) | refine Yo ?_ | (refine Y8 fun K hK => ?_) | refine Yq ?_ | (apply hK; clear hK K) | (refine Yb rfl ?_ ?_ <;> intro hcnd <;> (try simp at hcnd) <;> try exact dc) | refine Yc ?_ | (refine Ye ?_; refine Yf ?_) | (refine Yn ?_ ?_; (focus (simp [h1, h2, h3, h4, h5]; done)); refine Yp ?_) | refine Yg ?_ | (simp only [X0, Nat.reduceBEq]) | clear hK K)
        rw [h5']
        exact .pure .bool
  · repeat' (first | ((first | refine Yl rfl fun K9 h9 => ?_ | (refine Ym ?_ ?_; (focus (simp [h1, h2, h3]; done)); intro K9 h9)); simp (disch := first | exact dd | fail) [h1, h2, h3]; (try simp (disch := first | exact de | fail) only [X7]); ((first | refine Ap hc1 ?_ | refine Ap hc2 ?_ | refine Ap hc3 ?_ | skip) <;> ((repeat (refine Yz ?_)); (first | refine h9 _ _ (Yp ?_)); clear h9 K9))) | refine Yo ?_ | (refine Y8 fun K hK => ?_) | refine Yq ?_ | (apply hK; clear hK K) | (refine Yb rfl ?_ ?_ <;> intro hcnd <;> (try simp at hcnd) <;> try exact dc) | refine Yc ?_ | (refine Ye ?_; refine Yf ?_) | (refine Yn ?_ ?_; (focus (simp [h1, h2, h3]; done)); refine Yp ?_) | refine Yg ?_ | (simp only [X0, Nat.reduceBEq]) | clear hK K)
    exact .pure .bool
  · exact .bool

theorem rmatch_call (p s : List UInt8) (hp : p.length ≤ 1000000) (hs : s.length ≤ 1000000) : PCall Tryz.prog 57 [.str p, .str s] (.bool (matchB p s)) := by
  rw [← rmatch_eq]
  refine pcall_body Tryz.func57 rfl Tryz.call57 ?_ ?_
  rotate_left 1
  refine awp_slots (s' := (.str p : V) :: (.str s : V) :: zJ 35) rfl ?_; dsimp only [zJ]
  have hc1 := rpattern_call p hp
  have hc2 := rdns_call s hs
  unfold rmatchB
  cases h1 : patB p <;> rw [h1] at hc1
  · repeat' (first | ((first | refine Yl rfl fun K9 h9 => ?_ | refine Y1 rfl rfl fun K9 h9 => ?_ | refine Y2 rfl rfl fun K9 h9 => ?_ | (refine Ym ?_ ?_; (focus (simp [h1]; done)); intro K9 h9) | ((first | refine Y4 rfl ?_ ?_ | refine Y5 rfl ?_ ?_); (focus (simp [h1]; done)); intro K9 h9)); simp (disch := first | exact dd | fail) [h1]; (try simp (disch := first | exact de | fail) only [X7]); ((first | refine Ap hc1 ?_ | skip) <;> ((repeat (refine Yz ?_)); (first | refine h9 _ _ (Yp ?_) | refine h9 _ _ (Yt ?_)); clear h9 K9))) | refine Yo ?_ | refine Y7 ?_ | (refine Y8 fun K hK => ?_) | refine Yq ?_ | (apply hK; clear hK K) | ((first | refine Yk (m := 0) (by decide +kernel) [] (by kernel_rfl) (by decide +kernel) ?_); simp only [List.replicate, XL]) | (refine Yb rfl ?_ ?_ <;> intro hcnd <;> (try simp at hcnd) <;> try exact dc) | refine Yc ?_ | (refine Ye ?_; refine Yf ?_) | (refine Yn ?_ ?_; (focus (simp [h1]; done)); refine Yp ?_) | ((first | refine Yi rfl ?_ ?_ | refine Yj rfl ?_ ?_); (focus (simp [h1]; done)); refine Yt ?_) | refine Yg ?_ | (simp only [X0, Nat.reduceBEq]) | clear hK K)
    exact .pure .bool
  cases h2 : dnsB s <;> rw [h2] at hc2
  · repeat' (first | ((first | refine Yl rfl fun K9 h9 => ?_ | refine Y1 rfl rfl fun K9 h9 => ?_ | refine Y2 rfl rfl fun K9 h9 => ?_ | (refine Ym ?_ ?_; (focus (simp [h1, h2]; done)); intro K9 h9) | ((first | refine Y4 rfl ?_ ?_ | refine Y5 rfl ?_ ?_); (focus (simp [h1, h2]; done)); intro K9 h9)); simp (disch := first | exact dd | fail) [h1, h2]; (try simp (disch := first | exact de | fail) only [X7]); ((first | refine Ap hc1 ?_ | refine Ap hc2 ?_ | skip) <;> ((repeat (refine Yz ?_)); (first | refine h9 _ _ (Yp ?_) | refine h9 _ _ (Yt ?_)); clear h9 K9))) | refine Yo ?_ | refine Y7 ?_ | (refine Y8 fun K hK => ?_) | refine Yq ?_ | (apply hK; clear hK K) | ((first | refine Yk (m := 0) (by decide +kernel) [] (by kernel_rfl) (by decide +kernel) ?_); simp only [List.replicate, XL]) | (refine Yb rfl ?_ ?_ <;> intro hcnd <;> (try simp at hcnd) <;> try exact dc) | refine Yc ?_ | (refine Ye ?_; refine Yf ?_) | (refine Yn ?_ ?_; (focus (simp [h1, h2]; done)); refine Yp ?_) | ((first | refine Yi rfl ?_ ?_ | refine Yj rfl ?_ ?_); (focus (simp [h1, h2]; done)); refine Yt ?_) | refine Yg ?_ | (simp only [X0, Nat.reduceBEq]) | clear hK K)
    exact .pure .bool
  have hne := pat_head h1
  have hpos : 0 < p.length := List.length_pos_iff.2 hne
  have g0 : p.getD 0 0 = p[0]'hpos := by simp [hpos]
  rw [g0]
  by_cases h3 : p[0]'hpos = 42
  · have h3' : ((p[0]'hpos).toNat : Int) = 42 := by rw [h3]; rfl
    rw [if_pos h3]
    have hsp := rsplit_call s 46 hs
    rw [show byteV 46 = .int .u8 46 from rfl] at hsp
    obtain ⟨t, ht⟩ := splitC_head 46 s
    rw [ht] at hsp
    have hbl := bef_len 46 s
    have hc4 := alike_call (s.drop (befC 46 s).length) (p.drop 1) (by simp; omega) (by simp; omega)
    rw [List.drop_one] at hc4
    generalize befC 46 s = b at *
    by_cases h4 : b.length < s.length
    · have h4' : (b.length : Int) < s.length := by omega
      repeat' (first | ((first | refine Yl rfl fun K9 h9 => ?_ | refine Y1 rfl rfl fun K9 h9 => ?_ | refine Y2 rfl rfl fun K9 h9 => ?_ | (refine Ym ?_ ?_; (focus (simp [h1, h2, h3', h4, h4', List.take_of_length_le]; done)); intro K9 h9) | ((first | refine Y4 rfl ?_ ?_ | refine Y5 rfl ?_ ?_); (focus (simp [h1, h2, h3', h4, h4', List.take_of_length_le]; done)); intro K9 h9)); simp (disch := first | exact dd | fail) [h1, h2, h3', h4, h4', List.take_of_length_le]; (try simp (disch := first | exact de | fail) only [X7]); ((first | refine Ap hc1 ?_ | refine Ap hc2 ?_ | refine Ap hsp ?_ | refine Ap hc4 ?_ | skip) <;> ((repeat (refine Yz ?_)); (first | refine h9 _ _ (Yp ?_) | refine h9 _ _ (Yt ?_)); clear h9 K9))) | refine Yo ?_ | refine Y7 ?_ | (refine Y8 fun K hK => ?_) | refine Yq ?_ | (apply hK; clear hK K) | ((first | refine Yk (m := 0) (by decide +kernel) [] (by kernel_rfl) (by decide +kernel) ?_); simp only [List.replicate, XL]) | (refine Yb rfl ?_ ?_ <;> intro hcnd <;> (try simp at hcnd) <;> try exact dc) | refine Yc ?_ | (refine Ye ?_; refine Yf ?_) | (refine Yn ?_ ?_; (focus (simp [h1, h2, h3', h4, h4', List.take_of_length_le]; done)); refine Yp ?_) | ((first | refine Yi rfl ?_ ?_ | refine Yj rfl ?_ ?_); (focus (simp [h1, h2, h3', h4, h4', List.take_of_length_le]; done)); refine Yt ?_) | refine Yg ?_ | (simp only [X0, Nat.reduceBEq]) | clear hK K)
      simp [h4]
      exact .pure .bool
    · have h4' : ¬ (b.length : Int) < s.length := by omega
      repeat' (first | ((first | refine Yl rfl fun K9 h9 => ?_ | refine Y1 rfl rfl fun K9 h9 => ?_ | refine Y2 rfl rfl fun K9 h9 => ?_ | (refine Ym ?_ ?_; (focus (simp [h1, h2, h3', h4, h4', List.take_of_length_le]; done)); intro K9 h9) | ((first | refine Y4 rfl ?_ ?_ | refine Y5 rfl ?_ ?_); (focus (simp [h1, h2, h3', h4, h4', List.take_of_length_le]; done)); intro K9 h9)); simp (disch := first | exact dd | fail) [h1, h2, h3', h4, h4', List.take_of_length_le]; (try simp (disch := first | exact de | fail) only [X7]); ((first | refine Ap hc1 ?_ | refine Ap hc2 ?_ | refine Ap hsp ?_ | refine Ap hc4 ?_ | skip) <;> ((repeat (refine Yz ?_)); (first | refine h9 _ _ (Yp ?_) | refine h9 _ _ (Yt ?_)); clear h9 K9))) | refine Yo ?_ | refine Y7 ?_ | (refine Y8 fun K hK => ?_) | refine Yq ?_ | (apply hK; clear hK K) | ((first | refine Yk (m := 0) (by decide +kernel) [] (by kernel_rfl) (by decide +kernel) ?_); simp only [List.replicate, XL]) | (refine Yb rfl ?_ ?_ <;> intro hcnd <;> (try simp at hcnd) <;> try exact dc) | refine Yc ?_ | (refine Ye ?_; refine Yf ?_) | (refine Yn ?_ ?_; (focus (simp [h1, h2, h3', h4, h4', List.take_of_length_le]; done)); refine Yp ?_) | ((first | refine Yi rfl ?_ ?_ | refine Yj rfl ?_ ?_); (focus (simp [h1, h2, h3', h4, h4', List.take_of_length_le]; done)); refine Yt ?_) | refine Yg ?_ | (simp only [X0, Nat.reduceBEq]) | clear hK K)
      simp [h4]
      exact .pure .bool
  · have h3' : ¬ ((p[0]'hpos).toNat : Int) = 42 := fun e => h3 ((u8i _ 42 42 rfl).1 e)
    rw [if_neg h3]
    have hc3 := alike_call p s (by omega) (by omega)
    repeat' (first | ((first | refine Yl rfl fun K9 h9 => ?_ | refine Y1 rfl rfl fun K9 h9 => ?_ | refine Y2 rfl rfl fun K9 h9 => ?_ | (refine Ym ?_ ?_; (focus (simp [h1, h2, h3']; done)); intro K9 h9) | ((first | refine Y4 rfl ?_ ?_ | refine Y5 rfl ?_ ?_); (focus (simp [h1, h2, h3']; done)); intro K9 h9)); simp (disch := first | exact dd | fail) [h1, h2, h3']; (try simp (disch := first | exact de | fail) only [X7]); ((first | refine Ap hc1 ?_ | refine Ap hc2 ?_ | refine Ap hc3 ?_ | skip) <;> ((repeat (refine Yz ?_)); (first | refine h9 _ _ (Yp ?_) | refine h9 _ _ (Yt ?_)); clear h9 K9))) | refine Yo ?_ | refine Y7 ?_ | (refine Y8 fun K hK => ?_) | refine Yq ?_ | (apply hK; clear hK K) | ((first | refine Yk (m := 0) (by decide +kernel) [] (by kernel_rfl) (by decide +kernel) ?_); simp only [List.replicate, XL]) | (refine Yb rfl ?_ ?_ <;> intro hcnd <;> (try simp at hcnd) <;> try exact dc) | refine Yc ?_ | (refine Ye ?_; refine Yf ?_) | (refine Yn ?_ ?_; (focus (simp [h1, h2, h3']; done)); refine Yp ?_) | ((first | refine Yi rfl ?_ ?_ | refine Yj rfl ?_ ?_); (focus (simp [h1, h2, h3']; done)); refine Yt ?_) | refine Yg ?_ | (simp only [X0, Nat.reduceBEq]) | clear hK K)
    exact .pure .bool
  · exact .bool

end Go.Proofs.YtcfmanhblonjeaaGreatDoor.Ho
