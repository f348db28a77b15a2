/-
  HOST: the library's functions, by the kit's shelf.
  Conditions: none.
-/
import Derived.Test.YtegmenlonpgnpaaDoorVs30
import Derived.Test.YtegmenlonpgnpaaDoorGd
import Derived.Test.YtegmenlonpgnpaaDoorTab
import Derived.Test.YtegmenlonpgnpaaDoorShelf
import Derived.Test.YtegmenlonpgnpaaDoorH1
namespace Go.Proofs.YtegmenlonpgnpaaDoor
open Go.VS Go.Hst
set_option linter.all false

theorem rds_two {w : World} {ro : Nat → Prop} {ρ : Rho} {vs : Array Value} {s t : List UInt8} (h : Rds w ro ρ vs.toList [.str s, .str t]) : vs = #[.string ⟨s.toArray⟩, .string ⟨t.toArray⟩] := by
  obtain ⟨l⟩ := vs
  match l, h with
  | [a, b], h =>
    have h1 := h.2 0 a _ rfl rfl
    have h2 := h.2 1 b _ rfl rfl
    cases h1; cases h2; rfl
  | [], h => simp [Rds] at h
  | [_], h => simp [Rds] at h
  | _ :: _ :: _ :: _, h => simp [Rds] at h
theorem rds_sb {w : World} {ro : Nat → Prop} {ρ : Rho} {vs : Array Value} {s : List UInt8} {c : UInt8} (h : Rds w ro ρ vs.toList [.str s, byteV c]) : vs = #[.string ⟨s.toArray⟩, .int .u8 c.toNat] := by
  obtain ⟨l⟩ := vs
  match l, h with
  | [a, b], h =>
    have h1 := h.2 0 a _ rfl rfl
    have h2 := h.2 1 b _ rfl rfl
    unfold byteV at h2
    cases h1; cases h2; rfl
  | [], h => simp [Rds] at h
  | [_], h => simp [Rds] at h
  | _ :: _ :: _ :: _, h => simp [Rds] at h
theorem maxlen : Tryd.prog.globalNamed "internal/bytealg.MaxLen" = some 0 := by kernel_rfl
theorem same_self (w : World) : w.os = w.os ∧ w.tape = w.tape ∧ w.output = w.output ∧ w.heap = w.heap := ⟨rfl, rfl, rfl, rfl⟩

theorem indexByte_call (s : List UInt8) (c : UInt8) : PCall Tryd.prog 61 [.str s, byteV c] (.int .i64 (Lib.indexByte s c)) := by
  refine pcall_same Tryd.call61 (by simp) fun w ro ρ vs _ ha => ?_
  rw [rds_sb ha]
  refine (Tryd.strings_IndexByte ⟨s.toArray⟩ c.toNat w).mono ?_
  rintro e w' ⟨rfl, rfl⟩
  refine ⟨same_self _, _, rfl, fun ro ρ => ?_⟩
  have : (c.toNat : Int).toNat.toUInt8 = c := by simp
  rw [this]
  exact .int
theorem cutPrefix_call (s p : List UInt8) : PCall Tryd.prog 43 [.str s, .str p] (.tup [.str (Lib.trimPrefix s p), .bool (Lib.hasPrefix s p)]) := by
  refine pcall_same Tryd.call43 (by simp) fun w ro ρ vs _ ha => ?_
  rw [rds_two ha]
  refine (Tryd.strings_CutPrefix ⟨s.toArray⟩ ⟨p.toArray⟩ w).mono ?_
  rintro e w' ⟨rfl, rfl⟩
  refine ⟨same_self _, _, rfl, fun ro ρ => .tup rfl fun i u x hu hx => ?_⟩
  match i, hu, hx with
  | 0, hu, hx => simp at hu hx; subst hu; subst hx; exact .str
  | 1, hu, hx => simp at hu hx; subst hu; subst hx; exact .bool
  | i + 2, hu, hx => simp at hx
theorem trimPrefix_call (s p : List UInt8) : PCall Tryd.prog 48 [.str s, .str p] (.str (Lib.trimPrefix s p)) := by
  refine pcall_same Tryd.call48 (by simp) fun w ro ρ vs _ ha => ?_
  rw [rds_two ha]
  refine (Tryd.strings_TrimPrefix ⟨s.toArray⟩ ⟨p.toArray⟩ w).mono ?_
  rintro e w' ⟨rfl, rfl⟩
  exact ⟨same_self _, _, rfl, fun ro ρ => .str⟩
theorem hasSuffix_call (s p : List UInt8) (hs : s.length ≤ 4294967280) : PCall Tryd.prog 65 [.str s, .str p] (.bool (Lib.hasSuffix s p)) := by
  refine pcall_same Tryd.call65 (by simp) fun w ro ρ vs _ ha => ?_
  rw [rds_two ha]
  refine (Tryd.strings_HasSuffix ⟨s.toArray⟩ ⟨p.toArray⟩ w (by show s.toArray.size ≤ _; simp; omega)).mono ?_
  rintro e w' ⟨rfl, rfl⟩
  exact ⟨same_self _, _, rfl, fun ro ρ => .bool⟩
theorem contains_call (s p : List UInt8) (hs : s.length ≤ 4294967280) : PCall Tryd.prog 44 [.str s, .str p] (.bool (Lib.contains s p)) := by
  refine pcall_same Tryd.call44 (by simp) fun w ro ρ vs go ha => ?_
  rw [rds_two ha]
  obtain ⟨-, m, hm⟩ := go 0 maxlen
  refine (Tryd.strings_Contains ⟨s.toArray⟩ ⟨p.toArray⟩ m w (by show s.toArray.size < _; simp; omega) hm).mono ?_
  rintro e w' ⟨rfl, rfl⟩
  exact ⟨same_self _, _, rfl, fun ro ρ => .bool⟩
theorem cut_call (s : List UInt8) (c : UInt8) (hs : s.length ≤ 4294967280) : PCall Tryd.prog 45 [.str s, .str [c]] (.tup [.str (befC c s), .str (aftC c s), .bool (decide (c ∈ s))]) := by
  refine pcall_same Tryd.call45 (by simp) fun w ro ρ vs go ha => ?_
  rw [rds_two ha]
  obtain ⟨-, m, hm⟩ := go 0 maxlen
  refine (Tryd.strings_Cut ⟨s.toArray⟩ ⟨[c].toArray⟩ m w (by show s.toArray.size < _; simp; omega) hm).mono ?_
  rintro e w' ⟨rfl, n, rfl⟩
  refine ⟨⟨rfl, rfl, rfl, rfl⟩, _, rfl, fun ro ρ => .tup rfl fun i u x hu hx => ?_⟩
  simp only [cut_one] at hu
  match i, hu, hx with
  | 0, hu, hx => simp at hu hx; subst hu; subst hx; exact .str
  | 1, hu, hx => simp at hu hx; subst hu; subst hx; exact .str
  | 2, hu, hx => simp at hu hx; subst hu; subst hx; exact .bool
  | i + 3, hu, hx => simp at hx
theorem split_call (s : List UInt8) (c : UInt8) (hs : s.length ≤ 4294967280) : PCall Tryd.prog 39 [.str s, .str [c]] (.sl (splitC c s).length ((splitC c s).map V.str)) := by
  refine pcall_block Tryd.call39 (by simp [pure_sl]) fun w ro ρ vs go ha => ?_
  rw [rds_two ha]
  obtain ⟨-, m, hm⟩ := go 0 maxlen
  refine (Tryd.strings_Split ⟨s.toArray⟩ ⟨[c].toArray⟩ m w (by show s.toArray.size < _; simp; omega) hm (Nat.le_refl 1)).mono ?_
  rintro e w' ⟨rfl, rfl⟩
  have hcnt : Lib.countB ⟨s.toArray⟩ ⟨[c].toArray⟩ = s.count c := Lib.count_one c s
  have hB : (Lib.splitB ⟨[c].toArray⟩ 0 (s.count c) ⟨s.toArray⟩).map (·.data.toList) = splitC c s := by
    rw [Lib.splitB_data]
    exact splitK_one c _ s rfl
  refine ⟨⟨_, rfl⟩, _, rfl, fun ro' ρ hro => ?_⟩
  rw [hcnt]
  have hl : (Lib.splitB ⟨[c].toArray⟩ 0 (s.count c) ⟨s.toArray⟩).length = (splitC c s).length := by rw [← hB]; simp
  rw [show s.count c + 1 = (splitC c s).length from (splitC_len c s).symm]
  refine .sl (us := (Lib.splitB ⟨[c].toArray⟩ 0 (s.count c) ⟨s.toArray⟩).map Value.string) rfl hro (Nat.le_refl _) (by simp [hl]) (fun i u hu => ?_) fun i u x hu hx => ?_
  · show (w.alloc _).cell? _ = _
    simp only [World.cell?, World.alloc, Array.getElem?_push_size]
    rw [Nat.zero_add]
    simpa using hu
  · rw [← hB, List.map_map] at hx
    simp only [List.getElem?_map] at hu hx
    cases hb : (Lib.splitB ⟨[c].toArray⟩ 0 (s.count c) ⟨s.toArray⟩)[i]? with
    | none => rw [hb] at hu; simp at hu
    | some b =>
      rw [hb] at hu hx
      simp at hu hx
      subst hu; subst hx
      exact .str
end Go.Proofs.YtegmenlonpgnpaaDoor
