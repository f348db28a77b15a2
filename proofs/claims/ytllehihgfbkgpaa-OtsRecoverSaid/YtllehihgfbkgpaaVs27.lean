/-
  VALUE SEMANTICS, 27: functions that write one row of their caller's; functions that hand back a new row.
  Conditions: none; over any program.
-/
import Derived.Test.YtllehihgfbkgpaaVs26
set_option linter.unusedSimpArgs false
set_option linter.unusedVariables false
namespace Go.VS

/-- A nil slice in a row, as an empty one. -/
def nz : V → V
  | .nils => .sl 0 []
  | x => x
def nzRow : Row → Row
  | .live ds => .live (ds.map nz)
  | r => r

theorem Rd.nz {w : World} {ro : Nat → Prop} {ρ : Rho} {u : Value} {v : V} (h : Rd w ro ρ u v) : Rd w ro ρ u (nz v) := by
  unfold VS.nz
  split
  · obtain rfl := rd_nils h; exact .sl0
  · exact h

theorem Good.nz {c : Ctx} {rows : List Row} {w : World} {ro : Nat → Prop} {ρ : Rho} (g : Good c rows w ro ρ) : Good c (rows.map nzRow) w ro ρ := by
  refine ⟨g.os, g.tape, g.output, g.size, g.old, g.roLt, g.roNew, by simpa using g.len, g.ownNew, g.inj, fun j r hr => ?_, g.ext⟩
  rw [List.getElem?_map] at hr
  cases hq : rows[j]? with
  | none => rw [hq] at hr; simp at hr
  | some r0 =>
    rw [hq] at hr
    simp at hr
    subst hr
    have h0 := g.row j r0 hq
    cases r0 with
    | resv => exact h0
    | dead => exact h0
    | live ds =>
      rcases h0 with ⟨y, hy, C, t, fr, h1, h2, h3, h4, h5⟩ | ⟨rfl, hv⟩
      · refine .inl ⟨y, hy, C, t, fr, h1, h2, h3, by simpa using h4, fun i v hv => ?_⟩
        rw [List.getElem?_map] at hv
        cases hd : ds[i]? with
        | none => rw [hd] at hv; simp at hv
        | some v0 =>
          rw [hd] at hv
          simp at hv
          subst hv
          obtain ⟨u, hu, hr⟩ := h5 i v0 hd
          exact ⟨u, hu, hr.nz⟩
      · exact .inr ⟨by simp, hv⟩

theorem awp_nz {P : Program} {n0 : Nat} {Q : Exit → KS} {s : List V} {rows : List Row} {code : Code} (h : AWp P n0 code Q s (rows.map nzRow)) : AWp P n0 code Q s rows := by
  intro c a w hn hc
  obtain ⟨ro, ρ, g, hs⟩ := hc
  exact h c a w hn ⟨ro, ρ, g.nz, hs⟩

@[simp] theorem toByte_comp : toByte ∘ byteV = id := funext toByte_byteV
@[simp high] theorem pure_agg_pures {c : List V} : (V.agg c).Pure ↔ Pures c := ⟨fun h => by cases h; assumption, fun h => .agg h⟩
@[simp high] theorem pure_tup_pures {c : List V} : (V.tup c).Pure ↔ Pures c := ⟨fun h => by cases h; assumption, fun h => .tup h⟩
@[simp] theorem ren_of_pure {ex : Bool} {m : List (Option Nat)} {x : V} (h : x.Pure) : Ren ex m x x ↔ True := iff_true_intro (.pure h)

/-! ### One row of the caller's -/

/-- Called with values that read as `args`, row 0 being `row`: it returns r, and the row is then row'. -/
def MCall (P : Program) (f : FuncId) (args row row' : List V) (r : V) : Prop := ACalls P f args [.live row] fun r' rows' => r' = r ∧ rows' = [.live row']

/-- How such a function ends: the row is row', or so once one row of the call's own is shown as read-only memory. -/
def MEnd (row' : List V) (rows' : List Row) : Prop :=
  (∃ t, rows' = .live row' :: t) ∨ ∃ raw t id cs, rows' = .live raw :: t ∧ t[id]? = some (.live cs) ∧ Pures cs ∧ row' = raw.map (fz (id + 1) cs)

theorem fz_pure {id : Nat} {cs : List V} {v : V} (h : v.Pure) : fz id cs v = v := by
  cases h <;> rfl
theorem rowsRen_nil_any {rows : List Row} : RowsRen (List.map some []) [] rows := ⟨rfl, fun j j' i h => by simp at h, fun j i r h => by simp at h, fun j r h => by simp at h⟩

section
variable {P : Program} {f : FuncId} {args row row' : List V} {r : V}

theorem mcall_of (hr : r.Pure) (hp : Pures row') (h : ACalls P f args [.live row] fun r' rows' => r' = r ∧ MEnd row' rows') : MCall P f args row row' r := by
  refine ⟨h.1, fun w ro ρ vs g ha => (h.2 w ro ρ vs g ha).mono ?_⟩
  rintro e w' ⟨v, r', rows', ro', ρ', rfl, ⟨rfl, he⟩, g', hv⟩
  have hlen : ρ.length = 1 := by simpa using g.len
  have key : ∀ {ro' ρ' t}, Good ⟨w, ro, ρ⟩ (.live row' :: t) w' ro' ρ' → ∃ ρ'', Good ⟨w, ro, ρ⟩ [.live row'] w' ro' ρ'' := by
    intro ro' ρ' t g'
    refine ⟨_, g'.le (rows' := [.live row']) (m := [some 0]) (rowsRen_of (by simp) (by simp [rowsOver, hp])) ?_⟩
    intro j hj
    obtain rfl : j = 0 := by simp [hlen] at hj; exact hj
    rfl
  rcases he with ⟨t, rfl⟩ | ⟨raw, t, id, cs, rfl, hl, hpc, rfl⟩
  · obtain ⟨ρ'', g''⟩ := key g'
    exact ⟨v, r', _, _, _, rfl, ⟨rfl, rfl⟩, g'', hv.pure hr _⟩
  · obtain ⟨ro2, ρ2, g2, hrd⟩ := g'.freeze (id := id + 1) (by simpa using hl) hpc
    have he : ((Row.live raw :: t).set (id + 1) Row.dead).map (fzRow (id + 1) cs) = .live (raw.map (fz (id + 1) cs)) :: (t.set id .dead).map (fzRow (id + 1) cs) := by simp [fzRow]
    rw [he] at g2
    obtain ⟨ρ'', g''⟩ := key g2
    have := hrd v r' hv
    rw [fz_pure hr] at this
    exact ⟨v, r', _, _, _, rfl, ⟨rfl, rfl⟩, g'', this.pure hr _⟩

/-- From a body. -/
theorem mcall_body {fn : Func} {code : Code} (hf : P.funcs[f]? = some fn) (hb : fn.body = some code) (he : Enters P f) (hr : r.Pure) (hp : Pures row')
    (h : AWp P 1 code (aend P fn.results.toList fun r' rows' => r' = r ∧ MEnd row' rows') (args ++ List.replicate (fn.ntmps - args.length) .junk) [.live row]) : MCall P f args row row' r :=
  mcall_of hr hp (acalls_body hf hb he h)

theorem mend_plain {t : List Row} : MEnd row' (.live row' :: t) := .inl ⟨t, rfl⟩
theorem mend_fz {raw : List V} {t : List Row} (id : Nat) {cs : List V} (hl : t[id]? = some (.live cs)) (hp : Pures cs) (e : row' = raw.map (fz (id + 1) cs)) : MEnd row' (.live raw :: t) := .inr ⟨raw, t, id, cs, rfl, hl, hp, e⟩

/-- A call of such a function. i: the row's number at the caller's. -/
theorem acall_mut {cap args1 args2 : List V} {rows : List Row} {k : KV} (i : Nat) (hc : MCall P f args1 row row' r) (hrow : rows[i]? = some (.live row)) (hp : Pures row) (hp' : Pures row') (hr : r.Pure)
    (ha : Rens false [some i] args1 (args2 ++ cap)) (hk : k r (rows.set i (.live row'))) : acall P false (.fn (.func f) cap) args2 rows k := by
  refine .inr ⟨rfl, [i], args1, [.live row], _, by simp, rowsRen_of (by simp) (by simp [rowsOver, hrow, hp]), by simpa using ha, hc, ?_⟩
  rintro r1 rows1' ⟨rfl, rfl⟩
  have hlt : i < rows.length := (List.getElem?_eq_some_iff.1 hrow).1
  have hb : behind [i] rows.length [Row.live row'].length = [some i] := by simp [behind]
  refine ⟨r1, _, ⟨by simp, by simp, ?_, ?_⟩, .pure hr, hk⟩
  · rw [hb]
    intro j t r1 hj hr1
    match j with
    | 0 =>
      simp at hj hr1
      subst hj; subst hr1
      exact ⟨.live row', by simp [hlt], by simp [hp']⟩
    | j + 1 => simp at hj
  · intro j hj hn
    rw [List.getElem?_set_ne (by simp at hn; omega)]

/-- A part of a row of bytes, shown. -/
theorem view_bytes {rows : List Row} {id off n : Nat} {l m : List UInt8} (h : rows[id]? = some (.live (l.map byteV))) (hl : off + n ≤ l.length) (e : m = (l.drop off).take n) : View rows (.osl id off n 1) (.sl n (m.map byteV)) := by
  subst e
  have := view_osl (rows := rows) (id := id) (off := off) (n := n) (sz := 1) h (by simpa using hl) (fun x hx => pures_bytes x (List.mem_of_mem_drop (List.mem_of_mem_take hx)))
  simpa using this

@[simp] theorem fz_byteV {id : Nat} {cs : List V} : fz id cs ∘ byteV = byteV := rfl
@[simp] theorem fz_str {id : Nat} {cs : List V} : fz id cs ∘ V.str = V.str := rfl
@[simp] theorem fz_int {id : Nat} {cs : List V} {k : IntKind} : fz id cs ∘ V.int k = V.int k := rfl
theorem fzRow_pures {id : Nat} {cs ds : List V} (h : Pures ds) : fzRow id cs (.live ds) = .live ds := by
  have : ds.map (fz id cs) = ds := by
    conv => rhs; rw [← List.map_id ds]
    exact List.map_congr_left fun x hx => fz_pure (h x hx)
  simp [fzRow, this]

theorem awp_freeze' {n0 : Nat} {Q : Exit → KS} {s s' : List V} {rows rows' : List Row} {code : Code} (id : Nat) {cs : List V} (hl : rows[id]? = some (.live cs)) (hp : Pures cs) (hs : s.map (fz id cs) = s') (hr : (rows.set id .dead).map (fzRow id cs) = rows')
    (h : AWp P n0 code Q s' rows') : AWp P n0 code Q s rows := by
  subst hs; subst hr; exact awp_freeze id hl hp h

/-! ### A new row -/

/-- It hands back a pointer to a new row. -/
def NCall (P : Program) (f : FuncId) (args row : List V) : Prop := ACalls P f args [] fun r' rows' => r' = .ref 0 0 ∧ rows' = [.live row]

theorem ncall_body {fn : Func} {code : Code} (hf : P.funcs[f]? = some fn) (hb : fn.body = some code) (he : Enters P f)
    (h : AWp P 0 code (aend P fn.results.toList fun r' rows' => r' = .ref 0 0 ∧ rows' = [.live row]) (args ++ List.replicate (fn.ntmps - args.length) .junk) []) : NCall P f args row :=
  acalls_body hf hb he h

theorem acall_new {cap args2 : List V} {rows : List Row} {k : KV} (hc : NCall P f (args2 ++ cap) row) (hp : Pures row) (ha : ∀ x ∈ args2 ++ cap, x.Pure) (hk : k (.ref rows.length 0) (rows ++ [.live row])) : acall P false (.fn (.func f) cap) args2 rows k := by
  refine .inr ⟨rfl, [], args2 ++ cap, [], _, by simp, rowsRen_nil_any, rens_self ha, hc, ?_⟩
  rintro r1 rows1' ⟨rfl, rfl⟩
  have hb : behind [] rows.length [Row.live row].length = [some rows.length] := by simp [behind]
  refine ⟨.ref rows.length 0, rows ++ [.live row], ⟨by simp, by simp, ?_, ?_⟩, ?_, hk⟩
  · rw [hb]
    intro j t r1 hj hr1
    match j with
    | 0 =>
      simp at hj hr1
      subst hj; subst hr1
      exact ⟨.live row, by simp, by simp [hp]⟩
    | j + 1 => simp at hj
  · intro j hj hn
    rw [List.getElem?_append_left hj]
  · rw [hb]; simp

end

end Go.VS
