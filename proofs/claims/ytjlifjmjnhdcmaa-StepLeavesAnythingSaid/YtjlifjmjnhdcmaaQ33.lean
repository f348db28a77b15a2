/-
  STEP: states and extensions that a law is handed.
  Conditions: none.
-/
import Derived.Test.YtjlifjmjnhdcmaaGk
import Derived.Test.YtjlifjmjnhdcmaaGd
set_option linter.all false
namespace Go.Proofs.Ytjlifjmjnhdcmaa
open Go.VS Go.Stp
set_option linter.all false
set_option maxRecDepth 100000
/-- A struct's first part, and the others. -/
def FitsL (P : Program) (f : Nat) : List TypeId → List V → Prop
  | [], xs => xs = []
  | t :: ts, xs => ∃ ys zs, Fits P f t ys ∧ FitsL P f ts zs ∧ xs = ys ++ zs
theorem fits_fields {P : Program} {f : Nat} : ∀ (fs : List TypeId) (yss : List (List V)), yss.length = fs.length → (∀ (i : Nat) ys t, yss[i]? = some ys → fs[i]? = some t → Fits P f t ys) → FitsL P f fs yss.flatten
  | [], [], _, _ => rfl
  | [], _ :: _, h, _ => by simp at h
  | _ :: _, [], h, _ => by simp at h
  | t :: fs, ys :: yss, h, hf => ⟨ys, yss.flatten, hf 0 ys t rfl rfl, fits_fields fs yss (by simpa using h) (fun i y t h1 h2 => hf (i + 1) y t (by simpa using h1) (by simpa using h2)), by simp⟩
def ufields (P : Program) (t : TypeId) : Option (List TypeId) :=
  match P.underlying t with
  | some (.struct fs) => some (fs.toList.map (·.type))
  | _ => none
theorem fits_struct {P : Program} {f : Nat} {t : TypeId} {xs : List V} (l : List TypeId) (hu : ufields P t = some l) (h : Fits P (f + 1) t xs) : FitsL P f l xs := by
  unfold ufields at hu
  split at hu
  · rename_i fs hs
    cases hu
    simp only [Fits, hs] at h
    obtain ⟨yss, h1, h2, rfl⟩ := h
    refine fits_fields _ yss (by simpa using h1) fun i ys t hy ht => ?_
    rw [List.getElem?_map, Array.getElem?_toList] at ht
    cases hg : fs[i]? with
    | none => rw [hg] at ht; simp at ht
    | some g => rw [hg] at ht; simp at ht; subst ht; exact h2 i ys g hy hg
  · cases hu
theorem fitsV_struct {P : Program} {f : Nat} {t : TypeId} {x : V} {l : List TypeId} (hu : ufields P t = some l) (ha : uagg P t = some true) (h : FitsV P (f + 1) t x) : ∃ xs, x = .agg xs ∧ FitsL P f l xs := by
  unfold FitsV at h
  unfold ufields at hu
  split at hu
  · rename_i fs hs
    rw [hs] at h
    obtain ⟨xs, h1, h2⟩ := h
    exact ⟨xs, h2, fits_struct l (by unfold ufields; rw [hs]; exact hu) h1⟩
  · cases hu


theorem fitsT_int {P : Program} {f : Nat} {t : TypeId} {xs : List V} (ht : P.underlying t = some (.int .i64)) (h : Fits P (f + 1) t xs) : ∃ n : Int, I64 n ∧ xs = [.int .i64 n] := by
  simp only [Fits, ht] at h
  obtain ⟨n, h1, h⟩ := h
  exact ⟨n, i64_of h1, h⟩
theorem fitsT_str {P : Program} {f : Nat} {t : TypeId} {xs : List V} (ht : P.underlying t = some .string) (h : Fits P (f + 1) t xs) : ∃ s : List UInt8, s.length ≤ reachBytes ∧ xs = [.str s] := by
  simp only [Fits, ht] at h
  exact h
theorem fitsT_bool {P : Program} {f : Nat} {t : TypeId} {xs : List V} (ht : P.underlying t = some .bool) (h : Fits P (f + 1) t xs) : ∃ b : Bool, xs = [.bool b] := by
  simp only [Fits, ht] at h
  exact h
theorem flatten_parts {α : Type} (g : α → List V) (R : α → Prop) : ∀ {yss : List (List V)}, (∀ ys ∈ yss, ∃ a, R a ∧ ys = g a) → ∃ l : List α, l.length = yss.length ∧ (∀ a ∈ l, R a) ∧ yss.flatten = l.flatMap g
  | [], _ => ⟨[], rfl, by simp, rfl⟩
  | ys :: yss, h => by
    obtain ⟨a, ha, rfl⟩ := h ys (by simp)
    obtain ⟨l, h1, h2, h3⟩ := flatten_parts g R (yss := yss) fun ys hy => h ys (by simp [hy])
    exact ⟨a :: l, by simp [h1], by simpa using ⟨ha, h2⟩, by simp [h3]⟩
theorem fitsT_slice {α : Type} {P : Program} {f : Nat} {t e : TypeId} {xs : List V} (g : α → List V) (R : α → Prop) (ht : P.underlying t = some (.slice e)) (he : ∀ ys, Fits P f e ys → ∃ a, R a ∧ ys = g a) (h : Fits P (f + 1) t xs) :
    ∃ l : List α, l.length ≤ 140737488355328 ∧ (∀ a ∈ l, R a) ∧ xs = [.sl l.length (l.flatMap g)] := by
  simp only [Fits, ht] at h
  obtain ⟨yss, h1, -, h2, h0⟩ := h
  obtain ⟨l, h3, h5, h4⟩ := flatten_parts g R (yss := yss) fun ys hy => he ys (h2 ys hy)
  exact ⟨l, reach_le (by omega), h5, by rw [h3, ← h4]; exact h0⟩
theorem fits_at {f : Nat} {xs : List V} (h : Fits Try.prog (f + 2) 89 xs) : ∃ a : At, True ∧ xs = a.c := by
  have hL := fits_struct (f := f + 1) [9, 3, 9] (by kernel_rfl) h
  obtain ⟨y1, z1, h1, q1, e1⟩ := hL
  obtain ⟨y2, z2, h2, q2, e2⟩ := q1
  obtain ⟨y3, z3, h3, q3, e3⟩ := q2
  have ez : z3 = [] := q3
  subst ez
  subst e3
  subst e2
  subst e1
  obtain ⟨a, -, rfl⟩ := fitsT_str (f := f) (by kernel_rfl) h1
  obtain ⟨k, -, rfl⟩ := fitsT_int (f := f) (by kernel_rfl) h2
  obtain ⟨b, -, rfl⟩ := fitsT_str (f := f) (by kernel_rfl) h3
  exact ⟨⟨a, k, b⟩, trivial, rfl⟩
theorem fits_ats {f : Nat} {xs : List V} (h : Fits Try.prog (f + 3) 87 xs) : ∃ r : List At, True ∧ xs = [atsV r] := by
  obtain ⟨l, -, -, rfl⟩ := fitsT_slice (e := 89) At.c (fun _ => True) (by kernel_rfl) (fun ys h => fits_at h) h
  exact ⟨l, trivial, rfl⟩
theorem fits_rdns {f : Nat} {xs : List V} (h : Fits Try.prog (f + 4) 25 xs) : ∃ n : Nm, True ∧ xs = [nmV n] := by
  obtain ⟨l, -, -, rfl⟩ := fitsT_slice (e := 87) (fun r => [atsV r]) (fun _ => True) (by kernel_rfl) (fun ys h => fits_ats h) h
  exact ⟨l, trivial, by rw [nmV]; congr; clear h; induction l with | nil => rfl | cons a l ih => simp [ih]⟩
theorem fits_nm {f : Nat} {xs : List V} (h : Fits Try.prog (f + 5) 27 xs) : ∃ n : Nm, True ∧ xs = [nmV n] := by
  have hL := fits_struct (f := f + 4) [25] (by kernel_rfl) h
  obtain ⟨y1, z1, h1, q1, e1⟩ := hL
  have ez : z1 = [] := q1
  subst ez
  subst e1
  obtain ⟨n, -, rfl⟩ := fits_rdns h1
  exact ⟨n, trivial, rfl⟩
theorem fits_gn {f : Nat} {xs : List V} (h : Fits Try.prog (f + 6) 80 xs) : ∃ g : Gn, True ∧ xs = g.c := by
  have hL := fits_struct (f := f + 5) [3, 9, 27] (by kernel_rfl) h
  obtain ⟨y1, z1, h1, q1, e1⟩ := hL
  obtain ⟨y2, z2, h2, q2, e2⟩ := q1
  obtain ⟨y3, z3, h3, q3, e3⟩ := q2
  have ez : z3 = [] := q3
  subst ez
  subst e3
  subst e2
  subst e1
  obtain ⟨k, -, rfl⟩ := fitsT_int (f := f + 4) (by kernel_rfl) h1
  obtain ⟨a, -, rfl⟩ := fitsT_str (f := f + 4) (by kernel_rfl) h2
  obtain ⟨n, -, rfl⟩ := fits_nm h3
  exact ⟨⟨k, a, n⟩, trivial, rfl⟩
theorem fits_gns {f : Nat} {xs : List V} (h : Fits Try.prog (f + 7) 35 xs) : ∃ l : List Gn, True ∧ xs = [gnsV l] := by
  obtain ⟨l, -, -, rfl⟩ := fitsT_slice (e := 80) Gn.c (fun _ => True) (by kernel_rfl) (fun ys h => fits_gn h) h
  exact ⟨l, trivial, rfl⟩
theorem fits_sb {f : Nat} {xs : List V} (h : Fits Try.prog (f + 8) 52 xs) : ∃ s : Sb, True ∧ xs = s.c := by
  have hL := fits_struct (f := f + 7) [35, 35] (by kernel_rfl) h
  obtain ⟨y1, z1, h1, q1, e1⟩ := hL
  obtain ⟨y2, z2, h2, q2, e2⟩ := q1
  have ez : z2 = [] := q2
  subst ez
  subst e2
  subst e1
  obtain ⟨p, -, rfl⟩ := fits_gns h1
  obtain ⟨x, -, rfl⟩ := fits_gns h2
  exact ⟨⟨p, x⟩, trivial, rfl⟩
theorem fits_sbs {f : Nat} {xs : List V} (h : Fits Try.prog (f + 9) 41 xs) : ∃ l : List Sb, True ∧ xs = [sbsV l] := by
  obtain ⟨l, -, -, rfl⟩ := fitsT_slice (e := 52) Sb.c (fun _ => True) (by kernel_rfl) (fun ys h => fits_sb h) h
  exact ⟨l, trivial, rfl⟩
theorem fits_ns {f : Nat} {xs : List V} (h : Fits Try.prog (f + 10) 43 xs) : ∃ l : List Sb, True ∧ xs = [sbsV l] := by
  have hL := fits_struct (f := f + 9) [41] (by kernel_rfl) h
  obtain ⟨y1, z1, h1, q1, e1⟩ := hL
  have ez : z1 = [] := q1
  subst ez
  subst e1
  obtain ⟨p, -, rfl⟩ := fits_sbs h1
  exact ⟨p, trivial, rfl⟩
theorem fits_ky {f : Nat} {xs : List V} (h : Fits Try.prog (f + 2) 29 xs) : ∃ k : Ky, True ∧ xs = k.c := by
  have hL := fits_struct (f := f + 1) [3, 9, 9] (by kernel_rfl) h
  obtain ⟨y1, z1, h1, q1, e1⟩ := hL
  obtain ⟨y2, z2, h2, q2, e2⟩ := q1
  obtain ⟨y3, z3, h3, q3, e3⟩ := q2
  have ez : z3 = [] := q3
  subst ez
  subst e3
  subst e2
  subst e1
  obtain ⟨k, -, rfl⟩ := fitsT_int (f := f) (by kernel_rfl) h1
  obtain ⟨a, -, rfl⟩ := fitsT_str (f := f) (by kernel_rfl) h2
  obtain ⟨b, -, rfl⟩ := fitsT_str (f := f) (by kernel_rfl) h3
  exact ⟨⟨k, a, b⟩, trivial, rfl⟩
theorem fits_pg {f : Nat} {xs : List V} (h : Fits Try.prog (f + 11) 45 xs) : ∃ s : Pg, (I64 s.len ∧ I64 s.expl ∧ I64 s.map ∧ I64 s.any) ∧ xs = s.c := by
  have hL := fits_struct (f := f + 10) [27, 29, 4, 3, 3, 3, 3, 43] (by kernel_rfl) h
  obtain ⟨y1, z1, h1, q1, e1⟩ := hL
  obtain ⟨y2, z2, h2, q2, e2⟩ := q1
  obtain ⟨y3, z3, h3, q3, e3⟩ := q2
  obtain ⟨y4, z4, h4, q4, e4⟩ := q3
  obtain ⟨y5, z5, h5, q5, e5⟩ := q4
  obtain ⟨y6, z6, h6, q6, e6⟩ := q5
  obtain ⟨y7, z7, h7, q7, e7⟩ := q6
  obtain ⟨y8, z8, h8, q8, e8⟩ := q7
  have ez : z8 = [] := q8
  subst ez
  subst e8
  subst e7
  subst e6
  subst e5
  subst e4
  subst e3
  subst e2
  subst e1
  obtain ⟨n, -, rfl⟩ := fits_nm (f := f + 5) h1
  obtain ⟨k, -, rfl⟩ := fits_ky (f := f + 8) h2
  obtain ⟨b, rfl⟩ := fitsT_bool (f := f + 9) (by kernel_rfl) h3
  obtain ⟨i4, w4, rfl⟩ := fitsT_int (f := f + 9) (by kernel_rfl) h4
  obtain ⟨i5, w5, rfl⟩ := fitsT_int (f := f + 9) (by kernel_rfl) h5
  obtain ⟨i6, w6, rfl⟩ := fitsT_int (f := f + 9) (by kernel_rfl) h6
  obtain ⟨i7, w7, rfl⟩ := fitsT_int (f := f + 9) (by kernel_rfl) h7
  obtain ⟨s, -, rfl⟩ := fits_ns h8
  exact ⟨⟨n, k, b, i4, i5, i6, i7, s⟩, ⟨w4, w5, w6, w7⟩, rfl⟩
theorem fits_strl {f : Nat} {xs : List V} (h : Fits Try.prog (f + 2) 34 xs) : ∃ l : List (List UInt8), True ∧ xs = [strV l] := by
  obtain ⟨l, -, -, rfl⟩ := fitsT_slice (e := 9) (fun s => [V.str s]) (fun _ => True) (by kernel_rfl) (fun ys h => by obtain ⟨s, -, rfl⟩ := fitsT_str (f := f) (by kernel_rfl) h; exact ⟨s, trivial, rfl⟩) h
  exact ⟨l, trivial, by rw [strV]; congr; clear h; induction l with | nil => rfl | cons a l ih => simp [ih]⟩
theorem fits_mp {f : Nat} {xs : List V} (h : Fits Try.prog (f + 2) 97 xs) : ∃ m : Mp, True ∧ xs = m.c := by
  have hL := fits_struct (f := f + 1) [9, 9] (by kernel_rfl) h
  obtain ⟨y1, z1, h1, q1, e1⟩ := hL
  obtain ⟨y2, z2, h2, q2, e2⟩ := q1
  have ez : z2 = [] := q2
  subst ez
  subst e2
  subst e1
  obtain ⟨a, -, rfl⟩ := fitsT_str (f := f) (by kernel_rfl) h1
  obtain ⟨b, -, rfl⟩ := fitsT_str (f := f) (by kernel_rfl) h2
  exact ⟨⟨a, b⟩, trivial, rfl⟩
theorem fits_mps {f : Nat} {xs : List V} (h : Fits Try.prog (f + 3) 50 xs) : ∃ l : List Mp, True ∧ xs = [mpsV l] := by
  obtain ⟨l, -, -, rfl⟩ := fitsT_slice (e := 97) Mp.c (fun _ => True) (by kernel_rfl) (fun ys h => fits_mp h) h
  exact ⟨l, trivial, rfl⟩
theorem fits_pt {f : Nat} {xs : List V} (h : Fits Try.prog (f + 8) 131 xs) : ∃ m : Pt, True ∧ xs = m.c := by
  have hL := fits_struct (f := f + 7) [35, 3, 4, 27] (by kernel_rfl) h
  obtain ⟨y1, z1, h1, q1, e1⟩ := hL
  obtain ⟨y2, z2, h2, q2, e2⟩ := q1
  obtain ⟨y3, z3, h3, q3, e3⟩ := q2
  obtain ⟨y4, z4, h4, q4, e4⟩ := q3
  have ez : z4 = [] := q4
  subst ez
  subst e4
  subst e3
  subst e2
  subst e1
  obtain ⟨a, -, rfl⟩ := fits_gns h1
  obtain ⟨k, -, rfl⟩ := fitsT_int (f := f + 6) (by kernel_rfl) h2
  obtain ⟨b, rfl⟩ := fitsT_bool (f := f + 6) (by kernel_rfl) h3
  obtain ⟨n, -, rfl⟩ := fits_nm (f := f + 2) h4
  exact ⟨⟨a, k, b, n⟩, trivial, rfl⟩
theorem fits_pts {f : Nat} {xs : List V} (h : Fits Try.prog (f + 9) 53 xs) : ∃ l : List Pt, True ∧ xs = [ptsV l] := by
  obtain ⟨l, -, -, rfl⟩ := fitsT_slice (e := 131) Pt.c (fun _ => True) (by kernel_rfl) (fun ys h => fits_pt h) h
  exact ⟨l, trivial, rfl⟩
theorem fits_ex {f : Nat} {xs : List V} (h : Fits Try.prog (f + 2) 112 xs) : ∃ m : Ex, True ∧ xs = m.c := by
  have hL := fits_struct (f := f + 1) [9, 4, 9] (by kernel_rfl) h
  obtain ⟨y1, z1, h1, q1, e1⟩ := hL
  obtain ⟨y2, z2, h2, q2, e2⟩ := q1
  obtain ⟨y3, z3, h3, q3, e3⟩ := q2
  have ez : z3 = [] := q3
  subst ez
  subst e3
  subst e2
  subst e1
  obtain ⟨a, -, rfl⟩ := fitsT_str (f := f) (by kernel_rfl) h1
  obtain ⟨k, rfl⟩ := fitsT_bool (f := f) (by kernel_rfl) h2
  obtain ⟨b, -, rfl⟩ := fitsT_str (f := f) (by kernel_rfl) h3
  exact ⟨⟨a, k, b⟩, trivial, rfl⟩
theorem fits_exs {f : Nat} {xs : List V} (h : Fits Try.prog (f + 3) 54 xs) : ∃ l : List Ex, True ∧ xs = [exsV l] := by
  obtain ⟨l, -, -, rfl⟩ := fitsT_slice (e := 112) Ex.c (fun _ => True) (by kernel_rfl) (fun ys h => fits_ex h) h
  exact ⟨l, trivial, rfl⟩
theorem fits_in {f : Nat} {xs : List V} (h : Fits Try.prog (f + 10) 56 xs) : ∃ i : In, True ∧ xs = i.c := by
  have hL := fits_struct (f := f + 9) [4, 4, 3, 3, 34, 34, 50, 3, 3, 3, 35, 4, 52, 9, 9, 53, 53, 54] (by kernel_rfl) h
  obtain ⟨y1, z1, h1, q1, e1⟩ := hL
  obtain ⟨y2, z2, h2, q2, e2⟩ := q1
  obtain ⟨y3, z3, h3, q3, e3⟩ := q2
  obtain ⟨y4, z4, h4, q4, e4⟩ := q3
  obtain ⟨y5, z5, h5, q5, e5⟩ := q4
  obtain ⟨y6, z6, h6, q6, e6⟩ := q5
  obtain ⟨y7, z7, h7, q7, e7⟩ := q6
  obtain ⟨y8, z8, h8, q8, e8⟩ := q7
  obtain ⟨y9, z9, h9, q9, e9⟩ := q8
  obtain ⟨y10, z10, h10, q10, e10⟩ := q9
  obtain ⟨y11, z11, h11, q11, e11⟩ := q10
  obtain ⟨y12, z12, h12, q12, e12⟩ := q11
  obtain ⟨y13, z13, h13, q13, e13⟩ := q12
  obtain ⟨y14, z14, h14, q14, e14⟩ := q13
  obtain ⟨y15, z15, h15, q15, e15⟩ := q14
  obtain ⟨y16, z16, h16, q16, e16⟩ := q15
  obtain ⟨y17, z17, h17, q17, e17⟩ := q16
  obtain ⟨y18, z18, h18, q18, e18⟩ := q17
  have ez : z18 = [] := q18
  subst ez
  subst e18
  subst e17
  subst e16
  subst e15
  subst e14
  subst e13
  subst e12
  subst e11
  subst e10
  subst e9
  subst e8
  subst e7
  subst e6
  subst e5
  subst e4
  subst e3
  subst e2
  subst e1
  obtain ⟨v1, rfl⟩ := fitsT_bool (f := f + 8) (by kernel_rfl) h1
  obtain ⟨v2, rfl⟩ := fitsT_bool (f := f + 8) (by kernel_rfl) h2
  obtain ⟨v12, rfl⟩ := fitsT_bool (f := f + 8) (by kernel_rfl) h12
  obtain ⟨v3, -, rfl⟩ := fitsT_int (f := f + 8) (by kernel_rfl) h3
  obtain ⟨v4, -, rfl⟩ := fitsT_int (f := f + 8) (by kernel_rfl) h4
  obtain ⟨v8, -, rfl⟩ := fitsT_int (f := f + 8) (by kernel_rfl) h8
  obtain ⟨v9, -, rfl⟩ := fitsT_int (f := f + 8) (by kernel_rfl) h9
  obtain ⟨v10, -, rfl⟩ := fitsT_int (f := f + 8) (by kernel_rfl) h10
  obtain ⟨v14, -, rfl⟩ := fitsT_str (f := f + 8) (by kernel_rfl) h14
  obtain ⟨v15, -, rfl⟩ := fitsT_str (f := f + 8) (by kernel_rfl) h15
  obtain ⟨v5, -, rfl⟩ := fits_strl (f := f + 7) h5
  obtain ⟨v6, -, rfl⟩ := fits_strl (f := f + 7) h6
  obtain ⟨v7, -, rfl⟩ := fits_mps (f := f + 6) h7
  obtain ⟨v11, -, rfl⟩ := fits_gns (f := f + 2) h11
  obtain ⟨v13, -, rfl⟩ := fits_sb (f := f + 1) h13
  obtain ⟨v16, -, rfl⟩ := fits_pts h16
  obtain ⟨v17, -, rfl⟩ := fits_pts h17
  obtain ⟨v18, -, rfl⟩ := fits_exs (f := f + 6) h18
  exact ⟨⟨v1, v2, v3, v4, v5, v6, v7, v8, v9, v10, v11, v12, v13, v14, v15, v16, v17, v18⟩, trivial, rfl⟩
end Go.Proofs.Ytjlifjmjnhdcmaa
