/-
  VALUE SEMANTICS, 11: rows under other numbers: what a loop forgets; calls that are handed rows.
  Conditions: none; over any program.
-/
import Derived.Test.YtllehihgfbkgpaaVs10
set_option linter.unusedSimpArgs false
set_option linter.unusedVariables false
namespace Go.VS

/-- x' (over new numbers) says no more than x (over the old ones). m: the old number of each new row; none: a new empty row. With `ex` it says the same. -/
inductive Ren (ex : Bool) (m : List (Option Nat)) : V → V → Prop
  | pure {x} : x.Pure → Ren ex m x x
  | junk {x} : ex = false → Ren ex m .junk x
  | nil {j o s} : ex = false → m[j]? = some none → Ren ex m (.osl j o 0 s) .nils
  | ref {j i o} : m[j]? = some (some i) → Ren ex m (.ref j o) (.ref i o)
  | osl {j i o n s} : m[j]? = some (some i) → Ren ex m (.osl j o n s) (.osl i o n s)
  | fn {f c d} : c.length = d.length → (∀ (i : Nat) x y, c[i]? = some x → d[i]? = some y → Ren ex m x y) → Ren ex m (.fn f c) (.fn f d)
  | iface {t x y} : Ren ex m x y → Ren ex m (.iface t x) (.iface t y)
  | agg {c d} : c.length = d.length → (∀ (i : Nat) x y, c[i]? = some x → d[i]? = some y → Ren ex m x y) → Ren ex m (.agg c) (.agg d)
  | tup {c d} : c.length = d.length → (∀ (i : Nat) x y, c[i]? = some x → d[i]? = some y → Ren ex m x y) → Ren ex m (.tup c) (.tup d)

/-- Place by place. -/
def Rens (ex : Bool) (m : List (Option Nat)) : List V → List V → Prop
  | [], [] => True
  | x :: xs, y :: ys => Ren ex m x y ∧ Rens ex m xs ys
  | _, _ => False

theorem Rens.get {ex : Bool} {m : List (Option Nat)} : ∀ {xs ys : List V}, Rens ex m xs ys → xs.length = ys.length ∧ ∀ (i : Nat) x y, xs[i]? = some x → ys[i]? = some y → Ren ex m x y
  | [], [], _ => ⟨rfl, fun i x y h => by simp at h⟩
  | [], _ :: _, h => h.elim
  | _ :: _, [], h => h.elim
  | x :: xs, y :: ys, h => by
    obtain ⟨h1, h2⟩ := Rens.get h.2
    refine ⟨by simp [h1], fun i a b ha hb => ?_⟩
    cases i with
    | zero => simp at ha hb; subst ha; subst hb; exact h.1
    | succ i => exact h2 i a b (by simpa using ha) (by simpa using hb)

theorem Rens.self {ex : Bool} {m : List (Option Nat)} : ∀ {xs : List V}, (∀ x ∈ xs, x.Pure) → Rens ex m xs xs
  | [], _ => trivial
  | x :: xs, h => ⟨.pure (h x (by simp)), Rens.self fun y hy => h y (by simp [hy])⟩

theorem Rd.ren {w : World} {ro : Nat → Prop} {ρ ρ' : Rho} {m : List (Option Nat)} {ex : Bool} {x' x : V} (h : Ren ex m x' x)
    (h1 : ∀ (j i : Nat) y, m[j]? = some (some i) → ρ[i]? = some y → y ≠ .resv → ∃ y', ρ'[j]? = some y' ∧ (y' = .dead ∨ y' = y)) (h2 : ∀ (j : Nat), m[j]? = some none → ρ'[j]? = some .virt) :
    ∀ {u : Value}, Rd w ro ρ u x → Rd w ro ρ' u x' := by
  induction h with
  | pure hp => exact fun hu => hu.pure hp _
  | junk => exact fun _ => .junk
  | nil _ hm =>
    intro u hu
    obtain rfl := rd_nils hu
    exact .osl0 (h2 _ hm) (fun h => by cases h) (fun x h => by cases h)
  | ref hm =>
    intro u hu
    cases hu with
    | ref q1 q2 q3 q4 =>
      obtain ⟨y', hy', hc⟩ := h1 _ _ _ hm q1 q2
      rcases hc with rfl | rfl
      · exact .ref hy' (fun h => by cases h) (fun h => by cases h) (fun x hx => by cases hx)
      · exact .ref hy' q2 q3 q4
  | osl hm =>
    intro u hu
    cases hu with
    | osl0 q1 q2 q3 =>
      obtain ⟨y', hy', hc⟩ := h1 _ _ _ hm q1 q2
      rcases hc with rfl | rfl
      · exact .osl0 hy' (fun h => by cases h) (fun x hx => by cases hx)
      · exact .osl0 hy' q2 q3
    | osl q1 q2 q3 qle q4 =>
      obtain ⟨y', hy', hc⟩ := h1 _ _ _ hm q1 q2
      rcases hc with rfl | rfl
      · exact .osl hy' (fun h => by cases h) (fun h => by cases h) qle (fun x hx => by cases hx)
      · exact .osl hy' q2 q3 qle q4
  | fn hl _ ih =>
    intro u hu
    cases hu with
    | fn q0 q1 q2 =>
      refine .fn q0 (q1.trans hl.symm) fun i u x hu hx => ?_
      obtain ⟨y, hy⟩ := get_iff (i := i) (by rw [← hl]; exact (List.getElem?_eq_some_iff.1 hx).1)
      exact ih i x y hx hy (q2 i u y hu hy)
  | iface _ ih =>
    intro u hu
    cases hu with
    | iface h => exact .iface (ih h)
  | agg hl _ ih =>
    intro u hu
    cases hu with
    | agg q1 q2 =>
      refine .agg (q1.trans hl.symm) fun i u x hu hx => ?_
      obtain ⟨y, hy⟩ := get_iff (i := i) (by rw [← hl]; exact (List.getElem?_eq_some_iff.1 hx).1)
      exact ih i x y hx hy (q2 i u y hu hy)
  | tup hl _ ih =>
    intro u hu
    cases hu with
    | tup q1 q2 =>
      refine .tup (q1.trans hl.symm) fun i u x hu hx => ?_
      obtain ⟨y, hy⟩ := get_iff (i := i) (by rw [← hl]; exact (List.getElem?_eq_some_iff.1 hx).1)
      exact ih i x y hx hy (q2 i u y hu hy)

theorem Rens.rds {w : World} {ro : Nat → Prop} {ρ ρ' : Rho} {m : List (Option Nat)} {ex : Bool} {xs' xs : List V} {us : List Value} (h : Rens ex m xs' xs)
    (h1 : ∀ (j i : Nat) y, m[j]? = some (some i) → ρ[i]? = some y → y ≠ .resv → ∃ y', ρ'[j]? = some y' ∧ (y' = .dead ∨ y' = y)) (h2 : ∀ (j : Nat), m[j]? = some none → ρ'[j]? = some .virt)
    (hu : Rds w ro ρ us xs) : Rds w ro ρ' us xs' := by
  obtain ⟨q1, q2⟩ := h.get
  refine ⟨hu.1.trans q1.symm, fun i u x hi hx => ?_⟩
  obtain ⟨y, hy⟩ := get_iff (l := xs) (i := i) (by rw [← q1]; exact (List.getElem?_eq_some_iff.1 hx).1)
  exact Rd.ren (q2 i x y hx hy) h1 h2 (hu.2 i u y hi hy)

/-- The same backwards, where it says the same. -/
theorem Rd.unren {w : World} {ro : Nat → Prop} {ρ ρ' : Rho} {m : List (Option Nat)} {x' x : V} (h : Ren true m x' x)
    (h1 : ∀ (j i : Nat) y, m[j]? = some (some i) → ρ'[j]? = some y → ρ[i]? = some y) : ∀ {u : Value}, Rd w ro ρ' u x' → Rd w ro ρ u x := by
  generalize hex : true = ex at h
  induction h with
  | pure hp => exact fun hu => hu.pure hp _
  | junk h => subst hex; cases h
  | nil h => subst hex; cases h
  | ref hm =>
    intro u hu
    cases hu with
    | ref q1 q2 q3 q4 => exact .ref (h1 _ _ _ hm q1) q2 q3 q4
  | osl hm =>
    intro u hu
    cases hu with
    | osl0 q1 q2 q3 => exact .osl0 (h1 _ _ _ hm q1) q2 q3
    | osl q1 q2 q3 qle q4 => exact .osl (h1 _ _ _ hm q1) q2 q3 qle q4
  | fn hl _ ih =>
    intro u hu
    cases hu with
    | fn q0 q1 q2 =>
      refine .fn q0 (q1.trans hl) fun i u y hu hy => ?_
      obtain ⟨x, hx⟩ := get_iff (i := i) (by rw [hl]; exact (List.getElem?_eq_some_iff.1 hy).1)
      exact ih i x y hx hy (q2 i u x hu hx)
  | iface _ ih =>
    intro u hu
    cases hu with
    | iface h => exact .iface (ih h)
  | agg hl _ ih =>
    intro u hu
    cases hu with
    | agg q1 q2 =>
      refine .agg (q1.trans hl) fun i u y hu hy => ?_
      obtain ⟨x, hx⟩ := get_iff (i := i) (by rw [hl]; exact (List.getElem?_eq_some_iff.1 hy).1)
      exact ih i x y hx hy (q2 i u x hu hx)
  | tup hl _ ih =>
    intro u hu
    cases hu with
    | tup q1 q2 =>
      refine .tup (q1.trans hl) fun i u y hu hy => ?_
      obtain ⟨x, hx⟩ := get_iff (i := i) (by rw [hl]; exact (List.getElem?_eq_some_iff.1 hy).1)
      exact ih i x y hx hy (q2 i u x hu hx)

/-- A row: dead, or of cells that say no more. -/
def RowRen (ex : Bool) (m : List (Option Nat)) : Row → Row → Prop
  | .dead, r => r ≠ .resv ∧ (ex = true → r = .dead)
  | .live cs', .live cs => Rens ex m cs' cs
  | _, _ => False

/-- New rows over old ones. -/
structure RowsRen (m : List (Option Nat)) (rows' rows : List Row) : Prop where
  len : rows'.length = m.length
  inj : ∀ (j j' i : Nat), m[j]? = some (some i) → m[j']? = some (some i) → j = j'
  old : ∀ (j i : Nat) r', m[j]? = some (some i) → rows'[j]? = some r' → ∃ r, rows[i]? = some r ∧ RowRen false m r' r
  new : ∀ (j : Nat) r', m[j]? = some none → rows'[j]? = some r' → r' = .live []

/-- Where the new rows lie. -/
def rhoRen (m : List (Option Nat)) (rows' : List Row) (ρ : Rho) : Rho :=
  m.zipIdx.map fun (q : Option Nat × Nat) => match q.1 with
    | none => .virt
    | some i => match rows'[q.2]? with
      | some (.live _) => (ρ[i]?).getD .dead
      | _ => .dead

theorem rhoRen_get {m : List (Option Nat)} {rows' : List Row} {ρ : Rho} {j : Nat} : (rhoRen m rows' ρ)[j]? = (m[j]?).map fun q => match q with
    | none => .virt
    | some i => match rows'[j]? with
      | some (.live _) => (ρ[i]?).getD .dead
      | _ => .dead := by
  unfold rhoRen
  rw [List.getElem?_map, List.getElem?_zipIdx]
  cases m[j]? <;> simp

theorem rhoRen_on {m : List (Option Nat)} {rows' : List Row} {ρ : Rho} {j : Nat} {x : Own} (hj : (rhoRen m rows' ρ)[j]? = some (.on x)) : ∃ i, m[j]? = some (some i) ∧ ρ[i]? = some (.on x) := by
  rw [rhoRen_get] at hj
  cases hmj : m[j]? with
  | none => simp [hmj] at hj
  | some q =>
    cases q with
    | none => simp [hmj] at hj
    | some i =>
      refine ⟨i, rfl, ?_⟩
      simp only [hmj, Option.map_some] at hj
      split at hj
      · cases hρ : ρ[i]? with
        | none => simp [hρ] at hj
        | some y => simp [hρ] at hj; rw [hj]
      · simp at hj

section
variable {c : Ctx} {rows rows' : List Row} {w : World} {ro : Nat → Prop} {ρ : Rho} {m : List (Option Nat)}

theorem RowsRen.fwd (hm : RowsRen m rows' rows) (g : Good c rows w ro ρ) : (∀ (j i : Nat) y, m[j]? = some (some i) → ρ[i]? = some y → y ≠ .resv → ∃ y', (rhoRen m rows' ρ)[j]? = some y' ∧ (y' = .dead ∨ y' = y)) ∧
    ∀ (j : Nat), m[j]? = some none → (rhoRen m rows' ρ)[j]? = some .virt := by
  refine ⟨fun j i y hj hy _ => ?_, fun j hj => by rw [rhoRen_get, hj]; rfl⟩
  rw [rhoRen_get, hj]
  simp only [Option.map_some, hy, Option.getD_some]
  split
  · exact ⟨y, rfl, .inr rfl⟩
  · exact ⟨.dead, rfl, .inl rfl⟩

/-- The new rows are as good as the old ones; the call's beginning may be another one. -/
theorem Good.ren (g : Good c rows w ro ρ) (hm : RowsRen m rows' rows) {c' : Ctx} (hos : w.os = c'.w.os) (htape : w.tape = c'.w.tape) (hout : w.output = c'.w.output) (hsize : c'.w.heap.size ≤ w.heap.size)
    (hold : ∀ b, b < c'.w.heap.size → ¬ c'.may b → w.heap[b]? = c'.w.heap[b]?) (hroNew : ∀ b, ro b → c'.ro b ∨ c'.may b ∨ c'.w.heap.size ≤ b)
    (hown : ∀ (j : Nat) x, (rhoRen m rows' ρ)[j]? = some (.on x) → c'.may x.b ∨ c'.w.heap.size ≤ x.b) (hext : Ext c'.w c'.ro c'.ρ w ro (rhoRen m rows' ρ)) :
    Good c' rows' w ro (rhoRen m rows' ρ) := by
  obtain ⟨f1, f2⟩ := hm.fwd g
  have hon := fun (j : Nat) x => rhoRen_on (m := m) (rows' := rows') (ρ := ρ) (j := j) (x := x)
  refine ⟨hos, htape, hout, hsize, hold, g.roLt, hroNew, by simp [rhoRen, hm.len], fun j x hj => ?_, fun j j' x y hj hj' hb => ?_, fun j r' hr' => ?_, hext⟩
  · obtain ⟨i, h1, h2⟩ := hon j x hj
    exact ⟨hown j x hj, (g.ownNew i x h2).2⟩
  · obtain ⟨i, h1, h2⟩ := hon j x hj
    obtain ⟨i', h1', h2'⟩ := hon j' y hj'
    have := g.inj i i' x y h2 h2' hb
    subst this
    exact hm.inj j j' i h1 h1'
  · have hlt : j < m.length := by rw [← hm.len]; exact (List.getElem?_eq_some_iff.1 hr').1
    obtain ⟨q, hq⟩ := get_iff hlt
    cases q with
    | none =>
      have := hm.new j r' hq hr'
      subst this
      exact .inr ⟨rfl, f2 j hq⟩
    | some i =>
      obtain ⟨r, hr, hrr⟩ := hm.old j i r' hq hr'
      have hget : (rhoRen m rows' ρ)[j]? = some (match (some r' : Option Row) with | some (.live _) => (ρ[i]?).getD .dead | _ => .dead) := by rw [rhoRen_get, hq, hr']; rfl
      cases r' with
      | resv => exact hrr.elim
      | dead => exact hget
      | live cs' =>
        cases r with
        | resv => exact hrr.elim
        | dead => exact hrr.elim
        | live cs =>
          simp only at hget
          rcases g.row i _ hr with ⟨x, hx, C, e, fr, p1, p2, p3, p4, p5⟩ | ⟨hc, hv⟩
          · rw [hx, Option.getD_some] at hget
            obtain ⟨q1, q2⟩ := Rens.get hrr
            refine .inl ⟨x, hget, C, e, fr, p1, p2, p3, by omega, fun k v hv => ?_⟩
            obtain ⟨v0, hv0⟩ := get_iff (l := cs) (i := k) (by rw [← q1]; exact (List.getElem?_eq_some_iff.1 hv).1)
            obtain ⟨u, hu, hru⟩ := p5 k v0 hv0
            exact ⟨u, hu, Rd.ren (q2 k v v0 hv hv0) f1 f2 hru⟩
          · subst hc
            have : cs' = [] := by
              obtain ⟨q1, -⟩ := Rens.get hrr
              exact List.eq_nil_of_length_eq_zero (by simpa using q1)
            subst this
            rw [hv] at hget
            exact .inr ⟨rfl, hget⟩

end

/-! ### A call that is handed rows -/

/-- The new rows of the callee get the numbers behind the caller's. -/
def behind (m : List Nat) (n k : Nat) : List (Option Nat) := m.map some ++ (List.range (k - m.length)).map fun t => some (n + t)

structure Merged (m : List Nat) (rows rows1 rows' : List Row) : Prop where
  le : m.length ≤ rows1.length
  len : rows'.length = rows.length + (rows1.length - m.length)
  upd : ∀ (j i : Nat) r1, (behind m rows.length rows1.length)[j]? = some (some i) → rows1[j]? = some r1 → ∃ r, rows'[i]? = some r ∧ RowRen true (behind m rows.length rows1.length) r1 r
  keep : ∀ (i : Nat), i < rows.length → i ∉ m → rows'[i]? = rows[i]?

def acallW (P : Program) (f : FuncId) (args : List V) (rows : List Row) (k : KV) : Prop :=
  ∃ (m : List Nat) (args1 : List V) (rows1 : List Row) (R : V → List Row → Prop), m.Nodup ∧ RowsRen (m.map some) rows1 rows ∧ Rens false (m.map some) args1 args ∧ ACalls P f args1 rows1 R ∧
    ∀ r1 rows1', R r1 rows1' → ∃ r rows', Merged m rows rows1' rows' ∧ Ren true (behind m rows.length rows1'.length) r1 r ∧ k r rows'

theorem behind_get {m : List Nat} {n k j : Nat} : (behind m n k)[j]? = if j < m.length then (m[j]?).map some else if j < k then some (some (n + (j - m.length))) else none := by
  unfold behind
  rw [List.getElem?_append]
  split
  · rename_i h
    rw [if_pos (by simpa using h)]
    simp
  · rename_i h
    simp at h
    rw [if_neg (by omega), List.getElem?_map, List.length_map]
    split
    · rw [List.getElem?_range (by omega)]; simp
    · rw [List.getElem?_eq_none (by simp; omega)]; simp

open Classical in
/-- Where the rows lie behind the call. -/
noncomputable def rhoBack (M : List (Option Nat)) (n : Nat) (ρ ρ1 : Rho) : Rho :=
  (List.range n).map fun i => if h : ∃ j : Nat, M[j]? = some (some i) then (ρ1[Classical.choose h]?).getD .dead else (ρ[i]?).getD .dead

theorem calls_acallW {P : Program} {c : Ctx} {rows : List Row} {w : World} {ro : Nat → Prop} {ρ : Rho} {k : KV} {f : FuncId} {args : List V} {vs : Array Value} (g : Good c rows w ro ρ) (ha : Rds w ro ρ vs.toList args)
    (h : acallW P f args rows k) : Enters P f ∧ Calls P f vs w fun e w' => ∃ v, e = .returned v ∧ OpOk c k w ro ρ v w' := by
  obtain ⟨m, args1, rows1, R, hnd, hrr, hra, ⟨hent, hcall⟩, hk⟩ := h
  refine ⟨hent, ?_⟩
  obtain ⟨f1, f2⟩ := hrr.fwd g
  generalize hρ1 : rhoRen (m.map some) rows1 ρ = ρ1 at f1 f2
  have hon : ∀ (j : Nat) x, ρ1[j]? = some (.on x) → ∃ i, m[j]? = some i ∧ ρ[i]? = some (.on x) := by
    intro j x hj
    rw [← hρ1] at hj
    obtain ⟨i, h1, h2⟩ := rhoRen_on hj
    exact ⟨i, by simpa using h1, h2⟩
  have g1 : Good ⟨w, ro, ρ1⟩ rows1 w ro ρ1 := by
    have := g.ren hrr (c' := ⟨w, ro, ρ1⟩) rfl rfl rfl (Nat.le_refl _) (fun _ _ _ => rfl) (fun b hb => .inl hb) (fun j x hj => .inl ⟨j, x, by rw [hρ1] at hj; exact hj, rfl⟩) (by rw [hρ1]; exact Ext.refl _ _ _)
    rw [hρ1] at this
    exact this
  have hmlt : ∀ (j i : Nat), m[j]? = some i → i < rows.length := by
    intro j i hj
    have hlt : j < rows1.length := by rw [hrr.len]; simpa using (List.getElem?_eq_some_iff.1 hj).1
    obtain ⟨r', hr'⟩ := get_iff hlt
    obtain ⟨r, hr, -⟩ := hrr.old j i r' (by simp [hj]) hr'
    exact (List.getElem?_eq_some_iff.1 hr).1
  refine (hcall w ro ρ1 vs g1 (hra.rds f1 f2 ha)).mono ?_
  rintro e w' ⟨v, r1, rows1', ro', ρ1', rfl, hR, g', hr⟩
  refine ⟨v, rfl, ?_⟩
  obtain ⟨r, rows', hmg, hren, hkk⟩ := hk r1 rows1' hR
  generalize hM : behind m rows.length rows1'.length = M at hmg hren
  have hMget : ∀ j : Nat, M[j]? = if j < m.length then (m[j]?).map some else if j < rows1'.length then some (some (rows.length + (j - m.length))) else none := fun j => by rw [← hM]; exact behind_get
  have hMinj : ∀ (j j' i : Nat), M[j]? = some (some i) → M[j']? = some (some i) → j = j' := by
    intro j j' i h h'
    rw [hMget] at h h'
    split at h <;> split at h'
    · rename_i q q'
      cases hj : m[j]? with
      | none => simp [hj] at h
      | some a =>
        cases hj' : m[j']? with
        | none => simp [hj'] at h'
        | some b =>
          simp [hj] at h; simp [hj'] at h'
          subst h; subst h'
          exact (List.getElem?_inj q hnd).1 (by rw [hj, hj'])
    · rename_i q q'
      cases hj : m[j]? with
      | none => simp [hj] at h
      | some a =>
        simp [hj] at h
        subst h
        have := hmlt j a hj
        split at h'
        · simp at h'; omega
        · simp at h'
    · rename_i q q'
      cases hj' : m[j']? with
      | none => simp [hj'] at h'
      | some a =>
        simp [hj'] at h'
        subst h'
        have := hmlt j' a hj'
        split at h
        · simp at h; omega
        · simp at h
    · split at h <;> split at h'
      · simp at h h'; omega
      · simp at h'
      · simp at h
      · simp at h
  have hMlt : ∀ (j i : Nat), M[j]? = some (some i) → i < rows'.length := by
    intro j i h
    rw [hMget] at h
    rw [hmg.len]
    split at h
    · cases hj : m[j]? with
      | none => simp [hj] at h
      | some a => simp [hj] at h; subst h; have := hmlt j a hj; omega
    · split at h
      · simp at h; omega
      · simp at h
  have hMm : ∀ (j i : Nat), m[j]? = some i → M[j]? = some (some i) := by
    intro j i h
    rw [hMget, if_pos (List.getElem?_eq_some_iff.1 h).1, h]; rfl
  have hMlen : M.length = rows1'.length := by
    rw [← hM]; unfold behind; simp; have := hmg.le; omega
  -- where the rows lie behind the call
  generalize hρ' : rhoBack M rows'.length ρ ρ1' = ρ'
  have hgetJ : ∀ (j i : Nat) y, M[j]? = some (some i) → ρ1'[j]? = some y → ρ'[i]? = some y := by
    intro j i y hj hy
    rw [← hρ', rhoBack, List.getElem?_map, List.getElem?_range (hMlt j i hj)]
    have hex : ∃ j : Nat, M[j]? = some (some i) := ⟨j, hj⟩
    simp only [Option.map_some]
    rw [dif_pos hex]
    have : Classical.choose hex = j := hMinj _ _ i (Classical.choose_spec hex) hj
    rw [this, hy]; rfl
  have hgetK : ∀ (i : Nat), i < rows.length → i ∉ m → ρ'[i]? = ρ[i]? := by
    intro i hi hni
    have hlt : i < rows'.length := by rw [hmg.len]; omega
    rw [← hρ', rhoBack, List.getElem?_map, List.getElem?_range hlt]
    have hnex : ¬ ∃ j : Nat, M[j]? = some (some i) := by
      rintro ⟨j, hj⟩
      rw [hMget] at hj
      split at hj
      · cases hjm : m[j]? with
        | none => simp [hjm] at hj
        | some a => simp [hjm] at hj; subst hj; exact hni (List.mem_of_getElem? hjm)
      · split at hj
        · simp at hj; omega
        · simp at hj
    simp only [Option.map_some]
    rw [dif_neg hnex]
    obtain ⟨y, hy⟩ := get_iff (l := ρ) (i := i) (by rw [g.len]; exact hi)
    rw [hy]; rfl
  have hcase : ∀ (i : Nat) x, ρ'[i]? = some (.on x) → (∃ j : Nat, M[j]? = some (some i) ∧ ρ1'[j]? = some (Pl.on x)) ∨ (i < rows.length ∧ i ∉ m ∧ ρ[i]? = some (Pl.on x)) := by
    intro i x hi
    have hlt : i < rows'.length := by
      have := (List.getElem?_eq_some_iff.1 hi).1
      rw [← hρ'] at this
      simpa [rhoBack] using this
    by_cases him : i ∈ m
    · obtain ⟨j, hj, rfl⟩ := List.mem_iff_getElem.1 him
      have hjM := hMm j m[j] (by simp [hj])
      obtain ⟨y, hy⟩ := get_iff (l := ρ1') (i := j) (by rw [g'.len]; have := hmg.le; omega)
      have := hgetJ j _ y hjM hy
      rw [this] at hi
      simp at hi
      subst hi
      exact .inl ⟨j, hjM, hy⟩
    · by_cases hil : i < rows.length
      · rw [hgetK i hil him] at hi
        exact .inr ⟨hil, him, hi⟩
      · have hjM : M[i - rows.length + m.length]? = some (some i) := by
          rw [hMget, if_neg (by omega), if_pos (by rw [hmg.len] at hlt; have := hmg.le; omega)]
          congr 2; omega
        obtain ⟨y, hy⟩ := get_iff (l := ρ1') (i := i - rows.length + m.length) (by rw [g'.len]; rw [hmg.len] at hlt; have := hmg.le; omega)
        have := hgetJ _ _ y hjM hy
        rw [this] at hi
        simp at hi
        subst hi
        exact .inl ⟨_, hjM, hy⟩
  -- the callee's own blocks are the caller's own or new
  have hmay : ∀ b, Ctx.may ⟨w, ro, ρ1⟩ b → ∃ (j i : Nat) (x : Own), m[j]? = some i ∧ ρ[i]? = some (.on x) ∧ x.b = b := by
    rintro b ⟨j, x, hj, hb⟩
    obtain ⟨i, h1, h2⟩ := hon j x hj
    exact ⟨j, i, x, h1, h2, hb⟩
  have hext : Ext w ro ρ w' ro' ρ' := by
    refine ⟨g'.ext.keep, g'.ext.heap, fun i y hy hn => ?_⟩
    have hil : i < rows.length := by rw [← g.len]; exact (List.getElem?_eq_some_iff.1 hy).1
    by_cases him : i ∈ m
    · obtain ⟨j, hj, rfl⟩ := List.mem_iff_getElem.1 him
      have hjm : m[j]? = some m[j] := by simp [hj]
      obtain ⟨y1, hy1, hc1⟩ := f1 j m[j] y (by simp [hj]) hy hn
      have hn1 : y1 ≠ .resv := by rcases hc1 with rfl | rfl <;> first | exact hn | exact (fun h => by cases h)
      obtain ⟨y2, hy2, hc2⟩ := g'.ext.own j y1 hy1 hn1
      refine ⟨y2, hgetJ j _ y2 (hMm j _ hjm) hy2, ?_⟩
      rcases hc2 with rfl | rfl
      · exact .inl rfl
      · exact hc1
    · exact ⟨y, by rw [hgetK i hil him]; exact hy, .inr rfl⟩
  have hrow1 : ∀ (j i : Nat) r1, M[j]? = some (some i) → rows1'[j]? = some r1 → ∀ r, rows'[i]? = some r → RowRen true M r1 r → RowOk w' ro' ρ' i r := by
    intro j i r1 hj hr1 r hr hrr
    have := g'.row j r1 hr1
    cases r1 with
    | resv => exact hrr.elim
    | dead =>
      obtain rfl := hrr.2 rfl
      exact hgetJ j i _ hj this
    | live cs1 =>
      cases r with
      | resv => exact hrr.elim
      | dead => exact hrr.elim
      | live cs =>
        obtain ⟨q1, q2⟩ := Rens.get hrr
        rcases this with ⟨x, hx, C, e, fr, p1, p2, p3, p4, p5⟩ | ⟨hc, hv⟩
        · refine .inl ⟨x, hgetJ j i _ hj hx, C, e, fr, p1, p2, p3, by omega, fun t v hv => ?_⟩
          obtain ⟨v1, hv1⟩ := get_iff (l := cs1) (i := t) (by rw [q1]; exact (List.getElem?_eq_some_iff.1 hv).1)
          obtain ⟨u, hu, hru⟩ := p5 t v1 hv1
          exact ⟨u, hu, Rd.unren (q2 t v1 v hv1 hv) hgetJ hru⟩
        · subst hc
          have : cs = [] := List.eq_nil_of_length_eq_zero (by simpa using q1.symm)
          subst this
          exact .inr ⟨rfl, hgetJ j i _ hj hv⟩
  have gg : Good c rows' w' ro' ρ' := by
    refine ⟨g'.os.trans g.os, g'.tape.trans g.tape, g'.output.trans g.output, Nat.le_trans g.size g'.size, fun b hb hm => ?_, g'.roLt, fun b hb => ?_, by rw [← hρ']; simp [rhoBack], fun i x hi => ?_, fun i i' x y hi hi' hb => ?_, fun i r hr => ?_, g.ext.trans hext⟩
    · rw [g'.old b (Nat.lt_of_lt_of_le hb g.size) (fun h => by
        obtain ⟨j, i, x, h1, h2, rfl⟩ := hmay b h
        rcases (g.ownNew i x h2).1 with h | h
        · exact hm h
        · omega)]
      exact g.old b hb hm
    · rcases g'.roNew b hb with h | h | h
      · exact g.roNew b h
      · obtain ⟨j, i, x, h1, h2, rfl⟩ := hmay b h
        exact .inr (g.ownNew i x h2).1
      · exact .inr (.inr (Nat.le_trans g.size h))
    · rcases hcase i x hi with ⟨j, hj, hx⟩ | ⟨hil, him, hx⟩
      · refine ⟨?_, (g'.ownNew j x hx).2⟩
        rcases (g'.ownNew j x hx).1 with h | h
        · obtain ⟨j', i', x', h1, h2, hb⟩ := hmay _ h
          rw [← hb]
          exact (g.ownNew i' x' h2).1
        · exact .inr (Nat.le_trans g.size h)
      · refine ⟨(g.ownNew i x hx).1, fun h => ?_⟩
        rcases g'.roNew _ h with h | h | h
        · exact (g.ownNew i x hx).2 h
        · obtain ⟨j', i', x', h1, h2, hb⟩ := hmay _ h
          have := g.inj i' i x' x h2 hx hb
          subst this
          exact him (List.mem_of_getElem? h1)
        · have := g.ownLt hx; simp at h; omega
    · have cross : ∀ (i i' : Nat) x y, (∃ j : Nat, M[j]? = some (some i) ∧ ρ1'[j]? = some (.on x)) → (i' < rows.length ∧ i' ∉ m ∧ ρ[i']? = some (.on y)) → x.b ≠ y.b := by
        rintro i i' x y ⟨j, hj, hx⟩ ⟨hil, him, hy⟩ hb
        rcases (g'.ownNew j x hx).1 with h | h
        · obtain ⟨j', i'', x', h1, h2, hb'⟩ := hmay _ h
          have := g.inj i'' i' x' y h2 hy (hb'.trans hb)
          subst this
          exact him (List.mem_of_getElem? h1)
        · have := g.ownLt hy; simp at h; omega
      rcases hcase i x hi with h | h <;> rcases hcase i' y hi' with h' | h'
      · obtain ⟨j, hj, hx⟩ := h
        obtain ⟨j', hj', hx'⟩ := h'
        have := g'.inj j j' x y hx hx' hb
        subst this
        rw [hj] at hj'
        simp at hj'
        exact hj'
      · exact absurd hb (cross i i' x y h h')
      · exact absurd hb.symm (cross i' i y x h' h)
      · exact g.inj i i' x y h.2.2 h'.2.2 hb
    · have hlt : i < rows'.length := (List.getElem?_eq_some_iff.1 hr).1
      by_cases him : i ∈ m
      · obtain ⟨j, hj, rfl⟩ := List.mem_iff_getElem.1 him
        have hjM := hMm j m[j] (by simp [hj])
        obtain ⟨r1, hr1⟩ := get_iff (l := rows1') (i := j) (by have := hmg.le; omega)
        obtain ⟨r2, hr2, hrr2⟩ := hmg.upd j m[j] r1 (by rw [hM]; exact hjM) hr1
        rw [hr] at hr2
        simp at hr2
        subst hr2
        exact hrow1 j m[j] r1 hjM hr1 r hr (by rw [hM] at hrr2; exact hrr2)
      · by_cases hil : i < rows.length
        · have hr0 : rows[i]? = some r := by rw [← hmg.keep i hil him]; exact hr
          have := g.row i r hr0
          cases r with
          | resv => show ρ'[i]? = _; rw [hgetK i hil him]; exact this
          | dead => show ρ'[i]? = _; rw [hgetK i hil him]; exact this
          | live cs =>
            rcases this with ⟨x, hx, hat⟩ | ⟨hc, hv⟩
            · refine .inl ⟨x, by rw [hgetK i hil him]; exact hx, hat.ext hext (g'.old x.b (g.ownLt hx) fun h => ?_)⟩
              obtain ⟨j', i', x', h1, h2, hb⟩ := hmay _ h
              have := g.inj i' i x' x h2 hx hb
              subst this
              exact him (List.mem_of_getElem? h1)
            · exact .inr ⟨hc, by rw [hgetK i hil him]; exact hv⟩
        · have hjM : M[i - rows.length + m.length]? = some (some i) := by
            rw [hMget, if_neg (by omega), if_pos (by rw [hmg.len] at hlt; have := hmg.le; omega)]
            congr 2; omega
          obtain ⟨r1, hr1⟩ := get_iff (l := rows1') (i := i - rows.length + m.length) (by rw [hmg.len] at hlt; have := hmg.le; omega)
          obtain ⟨r2, hr2, hrr2⟩ := hmg.upd _ i r1 (by rw [hM]; exact hjM) hr1
          rw [hr] at hr2
          simp at hr2
          subst hr2
          exact hrow1 _ i r1 hjM hr1 r hr (by rw [hM] at hrr2; exact hrr2)
  exact ⟨r, rows', ro', ρ', hkk, gg, Rd.unren hren hgetJ hr, hext⟩

end Go.VS
