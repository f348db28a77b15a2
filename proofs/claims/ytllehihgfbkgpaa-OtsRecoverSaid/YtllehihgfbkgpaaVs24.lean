/-
  VALUE SEMANTICS, 24: what a law is handed, shape by shape.
  Conditions: none; over any program.
-/
import Derived.Test.YtllehihgfbkgpaaVs23
set_option linter.unusedSimpArgs false
set_option linter.unusedVariables false
namespace Go.VS

section
variable {P : Program} {f : Nat} {t e : TypeId} {x : V} {n : Nat}

theorem fitsAll_cons {ts : List TypeId} {xs : List V} (h : FitsAll P f (t :: ts) xs) : ∃ y ys, xs = y :: ys ∧ FitsV P f t y ∧ FitsAll P f ts ys := by
  cases xs with
  | nil => exact h.elim
  | cons y ys => exact ⟨y, ys, rfl, h.1, h.2⟩

theorem fitsAll_nil {xs : List V} (h : FitsAll P f [] xs) : xs = [] := by
  cases xs with
  | nil => rfl
  | cons y ys => exact h.elim

theorem flatten_single {α β : Type} {R : α → Prop} (g : α → β) : ∀ {yss : List (List β)}, (∀ ys ∈ yss, ∃ a, R a ∧ ys = [g a]) → ∃ l : List α, l.length = yss.length ∧ (∀ a ∈ l, R a) ∧ yss.flatten = l.map g
  | [], _ => ⟨[], rfl, by simp, rfl⟩
  | ys :: yss, h => by
    obtain ⟨a, ha, rfl⟩ := h ys (by simp)
    obtain ⟨l, h1, h2, h3⟩ := flatten_single g (yss := yss) fun ys hy => h ys (by simp [hy])
    exact ⟨a :: l, by simp [h1], by simpa using ⟨ha, h2⟩, by simp [h3]⟩

theorem reach_le {n : Nat} (h : n ≤ reachBytes) : n ≤ 140737488355328 := Nat.le_trans h (Nat.le_of_lt reachBytes_lt)

theorem byte_of {k : Int} (h : IntKind.u8.min ≤ k ∧ k ≤ IntKind.u8.max) : ∃ c : UInt8, V.int .u8 k = byteV c := by
  have h1 : 0 ≤ k ∧ k ≤ 255 := by simpa [IntKind.min, IntKind.max, IntKind.signed, IntKind.bits] using h
  refine ⟨UInt8.ofNat k.toNat, ?_⟩
  simp only [byteV, V.int.injEq, true_and]
  have : (UInt8.ofNat k.toNat).toNat = k.toNat := by simp; omega
  rw [this]
  omega

theorem i64_of {k : Int} (h : IntKind.i64.min ≤ k ∧ k ≤ IntKind.i64.max) : -9223372036854775808 ≤ k ∧ k ≤ 9223372036854775807 := by
  simpa [IntKind.min, IntKind.max, IntKind.signed, IntKind.bits] using h

theorem fits_bool (ht : P.underlying t = some .bool) (h : FitsV P (f + 1) t x) : ∃ b, x = .bool b := by
  simpa [FitsV, ht, Fits] using h

theorem fits_int (ht : P.underlying t = some (.int .i64)) (h : FitsV P (f + 1) t x) : ∃ k : Int, (-9223372036854775808 ≤ k ∧ k ≤ 9223372036854775807) ∧ x = .int .i64 k := by
  simp only [FitsV, ht, Fits] at h
  obtain ⟨k, h1, h2⟩ := h
  exact ⟨k, i64_of h1, by simpa using h2⟩

theorem fits_u8 (ht : P.underlying t = some (.int .u8)) (h : FitsV P (f + 1) t x) : ∃ c : UInt8, x = byteV c := by
  simp only [FitsV, ht, Fits] at h
  obtain ⟨k, h1, h2⟩ := h
  obtain ⟨c, hc⟩ := byte_of h1
  exact ⟨c, by simpa [hc] using h2⟩

theorem fits_u16 (ht : P.underlying t = some (.int .u16)) (h : FitsV P (f + 1) t x) : ∃ k : Int, (0 ≤ k ∧ k ≤ 65535) ∧ x = .int .u16 k := by
  simp only [FitsV, ht, Fits] at h
  obtain ⟨k, h1, h2⟩ := h
  exact ⟨k, by simpa [IntKind.min, IntKind.max, IntKind.signed, IntKind.bits] using h1, by simpa using h2⟩

theorem fits_str (ht : P.underlying t = some .string) (h : FitsV P (f + 1) t x) : ∃ s : List UInt8, s.length ≤ 140737488355328 ∧ x = .str s := by
  simp only [FitsV, ht, Fits] at h
  obtain ⟨k, h1, h2⟩ := h
  exact ⟨k, reach_le h1, by simpa using h2⟩

theorem fits_bytes (ht : P.underlying t = some (.array n e)) (he : P.underlying e = some (.int .u8)) (h : FitsV P (f + 2) t x) : ∃ l : List UInt8, l.length = n ∧ x = .agg (l.map byteV) := by
  simp only [FitsV, ht, Fits, he] at h
  obtain ⟨xs, ⟨yss, h1, h2, rfl⟩, rfl⟩ := h
  obtain ⟨l, h3, -, h4⟩ := flatten_single (R := fun _ => True) byteV (yss := yss) fun ys hy => by
    obtain ⟨k, hk, rfl⟩ := h2 ys hy
    obtain ⟨c, hc⟩ := byte_of hk
    exact ⟨c, trivial, by rw [hc]⟩
  exact ⟨l, by omega, by rw [h4]⟩

theorem fits_u8s (ht : P.underlying t = some (.slice e)) (he : P.underlying e = some (.int .u8)) (h : FitsV P (f + 2) t x) : ∃ l : List UInt8, l.length ≤ 140737488355328 ∧ x = .sl l.length (l.map byteV) := by
  simp only [FitsV, ht, Fits, he] at h
  obtain ⟨yss, h1, -, h2, h0⟩ := h
  obtain ⟨l, h3, -, h4⟩ := flatten_single (R := fun _ => True) byteV (yss := yss) fun ys hy => by
    obtain ⟨k, hk, rfl⟩ := h2 ys hy
    obtain ⟨c, hc⟩ := byte_of hk
    exact ⟨c, trivial, by rw [hc]⟩
  exact ⟨l, reach_le (by omega), by rw [h3, ← h4]; simpa using h0⟩

theorem fits_ints (ht : P.underlying t = some (.slice e)) (he : P.underlying e = some (.int .i64)) (h : FitsV P (f + 2) t x) :
    ∃ l : List Int, l.length ≤ 140737488355328 ∧ (∀ k ∈ l, -9223372036854775808 ≤ k ∧ k ≤ 9223372036854775807) ∧ x = .sl l.length (l.map (V.int .i64)) := by
  simp only [FitsV, ht, Fits, he] at h
  obtain ⟨yss, h1, -, h2, h0⟩ := h
  obtain ⟨l, h3, h5, h4⟩ := flatten_single (R := fun k : Int => -9223372036854775808 ≤ k ∧ k ≤ 9223372036854775807) (V.int .i64) (yss := yss) fun ys hy => by
    obtain ⟨k, hk, rfl⟩ := h2 ys hy
    exact ⟨k, i64_of hk, rfl⟩
  exact ⟨l, reach_le (by omega), h5, by rw [h3, ← h4]; simpa using h0⟩

theorem fits_strs (ht : P.underlying t = some (.slice e)) (he : P.underlying e = some .string) (h : FitsV P (f + 2) t x) :
    ∃ l : List (List UInt8), l.length ≤ 140737488355328 ∧ (∀ s ∈ l, s.length ≤ 140737488355328) ∧ x = .sl l.length (l.map V.str) := by
  simp only [FitsV, ht, Fits, he] at h
  obtain ⟨yss, h1, -, h2, h0⟩ := h
  obtain ⟨l, h3, h5, h4⟩ := flatten_single (R := fun s : List UInt8 => s.length ≤ 140737488355328) V.str (yss := yss) fun ys hy => by
    obtain ⟨k, hk, rfl⟩ := h2 ys hy
    exact ⟨k, reach_le hk, rfl⟩
  exact ⟨l, reach_le (by omega), h5, by rw [h3, ← h4]; simpa using h0⟩

end

end Go.VS
