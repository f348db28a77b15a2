/-
  CONTRACTS: what a law is handed as a struct; keys.
  Conditions: none.
-/
import Derived.Test.YthcdofbmmibgjaaM12
import Derived.Test.YthcdofbmmibgjaaGd
namespace Go.Proofs.Ythcdofbmmibgjaa
open Go.VS
set_option linter.all false

/-- A struct's first part, and the others. -/
def FitsL (P : Program) (f : Nat) : List TypeId → List V → Prop
  | [], xs => xs = []
  | t :: ts, xs => ∃ ys zs, Fits P f t ys ∧ FitsL P f ts zs ∧ xs = ys ++ zs
theorem fits_fields {P : Program} {f : Nat} : ∀ (fs : List TypeId) (yss : List (List V)), yss.length = fs.length → (∀ (i : Nat) ys t, yss[i]? = some ys → fs[i]? = some t → Fits P f t ys) → FitsL P f fs yss.flatten
  | [], [], _, _ => rfl
  | [], _ :: _, h, _ => by simp at h
  | _ :: _, [], h, _ => by simp at h
  | t :: fs, ys :: yss, h, hf => ⟨ys, yss.flatten, hf 0 ys t rfl rfl, fits_fields fs yss (by simpa using h) (fun i y t h1 h2 => hf (i + 1) y t (by simpa using h1) (by simpa using h2)), by simp⟩
def ufields (P : Program) (t : TypeId) : Option (List TypeId) :=
  match P.underlying t with
  | some (.struct fs) => some (fs.toList.map (·.type))
  | _ => none
theorem fits_struct {P : Program} {f : Nat} {t : TypeId} {xs : List V} (l : List TypeId) (hu : ufields P t = some l) (h : Fits P (f + 1) t xs) : FitsL P f l xs := by
  unfold ufields at hu
  split at hu
  · rename_i fs hs
    cases hu
    simp only [Fits, hs] at h
    obtain ⟨yss, h1, h2, rfl⟩ := h
    refine fits_fields _ yss (by simpa using h1) fun i ys t hy ht => ?_
    rw [List.getElem?_map, Array.getElem?_toList] at ht
    cases hg : fs[i]? with
    | none => rw [hg] at ht; simp at ht
    | some g => rw [hg] at ht; simp at ht; subst ht; exact h2 i ys g hy hg
  · cases hu
theorem fitsV_struct {P : Program} {f : Nat} {t : TypeId} {x : V} {l : List TypeId} (hu : ufields P t = some l) (ha : uagg P t = some true) (h : FitsV P (f + 1) t x) : ∃ xs, x = .agg xs ∧ FitsL P f l xs := by
  unfold FitsV at h
  unfold ufields at hu
  split at hu
  · rename_i fs hs
    rw [hs] at h
    obtain ⟨xs, h1, h2⟩ := h
    exact ⟨xs, h2, fits_struct l (by unfold ufields; rw [hs]; exact hu) h1⟩
  · cases hu

theorem fitsS_int {P : Program} {f : Nat} {t : TypeId} {xs : List V} (ht : P.underlying t = some (.int .i64)) (h : Fits P (f + 1) t xs) : ∃ n : Int, xs = [.int .i64 n] := by
  simp only [Fits, ht] at h
  obtain ⟨n, -, h⟩ := h
  exact ⟨n, h⟩
theorem fitsS_str {P : Program} {f : Nat} {t : TypeId} {xs : List V} (ht : P.underlying t = some .string) (h : Fits P (f + 1) t xs) : ∃ s : List UInt8, s.length ≤ reachBytes ∧ xs = [.str s] := by
  simp only [Fits, ht] at h
  exact h
set_option maxRecDepth 100000 in
theorem fits_key {x : V} (h : FitsV Try.prog 8 42 x) : ∃ (n : Int) (id root : List UInt8), id.length ≤ 140737488355328 ∧ root.length ≤ 140737488355328 ∧ x = .agg [.int .i64 n, .str id, .str root] := by
  obtain ⟨xs, e0, hL⟩ := fitsV_struct (l := [3, 9, 9]) (by kernel_rfl) (by kernel_rfl) h
  obtain ⟨y1, z1, h1, h, e1⟩ := hL
  obtain ⟨y2, z2, h2, h, e2⟩ := h
  obtain ⟨y3, z3, h3, h, e3⟩ := h
  have e4 : z3 = [] := h
  subst e4; subst e3; subst e2; subst e1; subst e0
  obtain ⟨n, rfl⟩ := fitsS_int (f := 6) (by kernel_rfl) h1
  obtain ⟨id, q2, rfl⟩ := fitsS_str (f := 6) (by kernel_rfl) h2
  obtain ⟨root, q3, rfl⟩ := fitsS_str (f := 6) (by kernel_rfl) h3
  exact ⟨n, id, root, reach_le q2, reach_le q3, rfl⟩
end Go.Proofs.Ythcdofbmmibgjaa
