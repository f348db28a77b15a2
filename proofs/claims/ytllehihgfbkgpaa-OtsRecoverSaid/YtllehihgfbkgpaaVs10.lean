/-
  VALUE SEMANTICS, 10: contracts of functions; views of rows as read-only memory; rows under other numbers.
  Conditions: none; over any program.
-/
import Derived.Test.YtllehihgfbkgpaaVs9
set_option linter.unusedSimpArgs false
set_option linter.unusedVariables false
namespace Go.VS

def Enters (P : Program) (f : FuncId) : Prop := ∀ args w, (callFunc f args).run P w = .ok (.enter f args) w

/-- Called with values that read as `args`, beside rows of the caller's own: the function returns; R says what, and what the rows are then. -/
def ACalls (P : Program) (f : FuncId) (args : List V) (rows : List Row) (R : V → List Row → Prop) : Prop :=
  Enters P f ∧ ∀ (w : World) (ro : Nat → Prop) (ρ : Rho) (vs : Array Value), Good ⟨w, ro, ρ⟩ rows w ro ρ → Rds w ro ρ vs.toList args →
    Calls P f vs w fun e w' => ∃ v r rows' ro' ρ', e = .returned v ∧ R r rows' ∧ Good ⟨w, ro, ρ⟩ rows' w' ro' ρ' ∧ Rd w' ro' ρ' v r

/-- A function that only reads: its result is a value of its arguments. -/
def PCall (P : Program) (f : FuncId) (args : List V) (r : V) : Prop := r.Pure ∧ ACalls P f args [] fun r' _ => r' = r

theorem ACalls.mono {P : Program} {f : FuncId} {args : List V} {rows : List Row} {R R' : V → List Row → Prop} (h : ACalls P f args rows R) (hr : ∀ r rows', R r rows' → R' r rows') : ACalls P f args rows R' :=
  ⟨h.1, fun w ro ρ vs g ha => (h.2 w ro ρ vs g ha).mono fun e w' ⟨v, r, rows', ro', ρ', h1, h2, h3⟩ => ⟨v, r, rows', ro', ρ', h1, hr _ _ h2, h3⟩⟩

/-! ### Values without memory -/

inductive V.Flat : V → Prop
  | bool {b} : Flat (.bool b)
  | int {k n} : Flat (.int k n)
  | str {s} : Flat (.str s)
  | nilp : Flat .nilp
  | nils : Flat .nils
  | nilf : Flat .nilf
  | niface : Flat .niface
  | val {u} : Flat (.val u)
  | junk : Flat .junk
  | iface {t x} : Flat x → Flat (.iface t x)
  | agg {c} : (∀ x ∈ c, Flat x) → Flat (.agg c)
  | tup {c} : (∀ x ∈ c, Flat x) → Flat (.tup c)

attribute [simp] V.Flat.bool V.Flat.int V.Flat.str V.Flat.nilp V.Flat.nils V.Flat.nilf V.Flat.niface V.Flat.val V.Flat.junk
@[simp] theorem V.flat_agg {c : List V} : (V.agg c).Flat ↔ ∀ x ∈ c, x.Flat := ⟨fun h => by cases h; assumption, .agg⟩
@[simp] theorem V.flat_tup {c : List V} : (V.tup c).Flat ↔ ∀ x ∈ c, x.Flat := ⟨fun h => by cases h; assumption, .tup⟩
@[simp] theorem V.flat_iface {t : TypeId} {x : V} : (V.iface t x).Flat ↔ x.Flat := ⟨fun h => by cases h; assumption, .iface⟩

theorem Rd.flat {w : World} {ro : Nat → Prop} {ρ : Rho} {u : Value} {x : V} (h : Rd w ro ρ u x) : x.Flat → ∀ (w' : World) (ro' : Nat → Prop) (ρ' : Rho), Rd w' ro' ρ' u x := by
  induction h with
  | bool => exact fun _ _ _ _ => .bool
  | int => exact fun _ _ _ _ => .int
  | str => exact fun _ _ _ _ => .str
  | nilp => exact fun _ _ _ _ => .nilp
  | ref => intro h; cases h
  | rptr => intro h; cases h
  | nils => exact fun _ _ _ _ => .nils
  | sl0 => intro h; cases h
  | slz => intro h; cases h
  | sl => intro h; cases h
  | osl0 => intro h; cases h
  | osl => intro h; cases h
  | fn => intro h; cases h
  | nilf => exact fun _ _ _ _ => .nilf
  | niface => exact fun _ _ _ _ => .niface
  | iface _ ih => exact fun hp w' ro' ρ' => .iface (ih (V.flat_iface.1 hp) w' ro' ρ')
  | agg h1 _ ih => exact fun hp w' ro' ρ' => .agg h1 fun i u x hu hx => ih i u x hu hx (V.flat_agg.1 hp x (mem_of_getElem? hx)) w' ro' ρ'
  | tup h1 _ ih => exact fun hp w' ro' ρ' => .tup h1 fun i u x hu hx => ih i u x hu hx (V.flat_tup.1 hp x (mem_of_getElem? hx)) w' ro' ρ'
  | val => exact fun _ _ _ _ => .val
  | junk => exact fun _ _ _ _ => .junk

/-! ### Views -/

/-- y is x with all rows shown as read-only memory. -/
inductive View (rows : List Row) : V → V → Prop
  | pure {x} : x.Pure → View rows x x
  | junk {x} : View rows x .junk
  | osl {id off n sz cs cs'} : rows[id]? = some (.live cs) → off + n * sz ≤ cs.length → cs'.length = n * sz →
      (∀ (i : Nat) x y, cs[off + i]? = some x → cs'[i]? = some y → View rows x y) → View rows (.osl id off n sz) (.sl n cs')
  | ref {id off cs cs'} : rows[id]? = some (.live cs) → cs ≠ [] → off + cs'.length ≤ cs.length →
      (∀ (i : Nat) x y, cs[off + i]? = some x → cs'[i]? = some y → View rows x y) → View rows (.ref id off) (.rptr cs')
  | fn {f c d} : c.length = d.length → (∀ (i : Nat) x y, c[i]? = some x → d[i]? = some y → View rows x y) → View rows (.fn f c) (.fn f d)
  | iface {t x y} : View rows x y → View rows (.iface t x) (.iface t y)
  | agg {c d} : c.length = d.length → (∀ (i : Nat) x y, c[i]? = some x → d[i]? = some y → View rows x y) → View rows (.agg c) (.agg d)
  | tup {c d} : c.length = d.length → (∀ (i : Nat) x y, c[i]? = some x → d[i]? = some y → View rows x y) → View rows (.tup c) (.tup d)

def roAll (ro : Nat → Prop) (ρ : Rho) (b : Nat) : Prop := ro b ∨ ∃ (id : Nat) (x : Own), ρ[id]? = some (.on x) ∧ x.b = b

theorem get_iff {α : Type} {l : List α} {i : Nat} (h : i < l.length) : ∃ x, l[i]? = some x := ⟨l[i], by simp [h]⟩

theorem View.rd {c : Ctx} {rows : List Row} {w : World} {ro : Nat → Prop} {ρ : Rho} (g : Good c rows w ro ρ) {x y : V} (h : View rows x y) : ∀ {u : Value}, Rd w ro ρ u x → ∀ ρ', Rd w (roAll ro ρ) ρ' u y := by
  induction h with
  | pure hp =>
    intro u hu ρ'
    have h1 := hu.pure hp ([] : Rho)
    exact h1.ext ⟨fun _ h => .inl h, fun _ _ => rfl, fun id y h => by simp at h⟩
  | junk => exact fun _ _ => .junk
  | @osl id off n sz cs cs' h1 h2 h3 _ ih =>
    intro u hu ρ'
    rcases rd_osl g hu h1 with ⟨rfl, rfl, rfl, -⟩ | ⟨y, o, cap, hy, hat, rfl, ho, hn, hm⟩
    · have : cs' = [] := List.eq_nil_of_length_eq_zero (by simpa using h3)
      subst this
      exact .sl0
    · by_cases hc0 : cap = 0
      · subst hc0
        obtain rfl : n = 0 := by omega
        have : cs' = [] := List.eq_nil_of_length_eq_zero (by simpa using h3)
        subst this
        exact CellsAt.sl (fun i v hv => by simp at hv) (.inr ⟨id, y, hy, rfl⟩) (Nat.le_refl _)
      · obtain rfl : o = y.o + off := by rcases ho with h | h; exact absurd h hc0; exact h
        refine CellsAt.sl (fun i v hv => ?_) (.inr ⟨id, y, hy, rfl⟩) hn
        have hlt := (List.getElem?_eq_some_iff.1 hv).1
        obtain ⟨x, hx⟩ := get_iff (l := cs) (i := off + i) (by omega)
        obtain ⟨q, hq, hr⟩ := hat.cellsAt (off + i) x hx
        exact ⟨q, by rwa [show y.o + (off + i) = y.o + off + i by omega] at hq, ih i x v hx hv hr []⟩
  | @ref id off cs cs' h1 h2 h3 _ ih =>
    intro u hu ρ'
    obtain ⟨y, hy, hat, rfl⟩ := rd_ref g hu h1
    refine CellsAt.rptr (fun i v hv => ?_) (.inr ⟨id, y, hy, rfl⟩)
    have hlt := (List.getElem?_eq_some_iff.1 hv).1
    obtain ⟨x, hx⟩ := get_iff (l := cs) (i := off + i) (by omega)
    obtain ⟨q, hq, hr⟩ := hat.cellsAt (off + i) x hx
    exact ⟨q, by rwa [show y.o + (off + i) = y.o + off + i by omega] at hq, ih i x v hx hv hr []⟩
  | fn hl _ ih =>
    intro u hu ρ'
    cases hu with
    | fn h0 h1 h2 =>
      refine .fn h0 (h1.trans hl) fun i u y hu hy => ?_
      obtain ⟨x, hx⟩ := get_iff (i := i) (by rw [hl]; exact (List.getElem?_eq_some_iff.1 hy).1)
      exact ih i x y hx hy (h2 i u x hu hx) ρ'
  | iface _ ih =>
    intro u hu ρ'
    cases hu with
    | iface h => exact .iface (ih h ρ')
  | agg hl _ ih =>
    intro u hu ρ'
    cases hu with
    | agg h1 h2 =>
      refine .agg (h1.trans hl) fun i u y hu hy => ?_
      obtain ⟨x, hx⟩ := get_iff (i := i) (by rw [hl]; exact (List.getElem?_eq_some_iff.1 hy).1)
      exact ih i x y hx hy (h2 i u x hu hx) ρ'
  | tup hl _ ih =>
    intro u hu ρ'
    cases hu with
    | tup h1 h2 =>
      refine .tup (h1.trans hl) fun i u y hu hy => ?_
      obtain ⟨x, hx⟩ := get_iff (i := i) (by rw [hl]; exact (List.getElem?_eq_some_iff.1 hy).1)
      exact ih i x y hx hy (h2 i u x hu hx) ρ'

/-- The common case: a slice that shows a whole row, whose cells name no row. -/
theorem View.row {rows : List Row} {id n sz : Nat} {cs : List V} (h : rows[id]? = some (.live cs)) (hl : cs.length = n * sz) (hp : ∀ x ∈ cs, x.Pure) : View rows (.osl id 0 n sz) (.sl n cs) :=
  .osl h (by omega) hl fun i x y hx hy => by
    rw [Nat.zero_add, hy] at hx
    simp at hx
    subst hx
    exact .pure (hp _ (mem_of_getElem? hy))

/-- A part of a row. -/
theorem View.part {rows : List Row} {id off n sz : Nat} {cs : List V} (h : rows[id]? = some (.live cs)) (hl : off + n * sz ≤ cs.length) (hp : ∀ x ∈ cs, x.Pure) : View rows (.osl id off n sz) (.sl n ((cs.drop off).take (n * sz))) :=
  .osl h hl (by simp; omega) fun i x y hx hy => by
    rw [List.getElem?_take] at hy
    split at hy
    · rw [List.getElem?_drop, hx] at hy
      simp at hy
      subst hy
      exact .pure (hp _ (mem_of_getElem? hx))
    · simp at hy

theorem View.cell {rows : List Row} {id off : Nat} {cs : List V} (h : rows[id]? = some (.live cs)) (hn : cs ≠ []) (hl : off ≤ cs.length) (hp : ∀ x ∈ cs, x.Pure) : View rows (.ref id off) (.rptr (cs.drop off)) :=
  .ref h hn (by simp; omega) fun i x y hx hy => by
    rw [List.getElem?_drop, hx] at hy
    simp at hy
    subst hy
    exact .pure (hp _ (mem_of_getElem? hx))

/-- Lists of values under a view. -/
def Views (rows : List Row) : List V → List V → Prop
  | [], [] => True
  | x :: xs, y :: ys => View rows x y ∧ Views rows xs ys
  | _, _ => False

theorem Views.get {rows : List Row} : ∀ {xs ys : List V}, Views rows xs ys → xs.length = ys.length ∧ ∀ (i : Nat) x y, xs[i]? = some x → ys[i]? = some y → View rows x y
  | [], [], _ => ⟨rfl, fun i x y h => by simp at h⟩
  | [], _ :: _, h => h.elim
  | _ :: _, [], h => h.elim
  | x :: xs, y :: ys, h => by
    obtain ⟨h1, h2⟩ := Views.get h.2
    refine ⟨by simp [h1], fun i a b ha hb => ?_⟩
    cases i with
    | zero => simp at ha hb; subst ha; subst hb; exact h.1
    | succ i => exact h2 i a b (by simpa using ha) (by simpa using hb)

theorem Views.self {rows : List Row} : ∀ {xs : List V}, (∀ x ∈ xs, x.Pure) → Views rows xs xs
  | [], _ => trivial
  | x :: xs, h => ⟨.pure (h x (by simp)), Views.self fun y hy => h y (by simp [hy])⟩

theorem Views.rds {c : Ctx} {rows : List Row} {w : World} {ro : Nat → Prop} {ρ : Rho} (g : Good c rows w ro ρ) {us : List Value} {xs ys : List V} (h : Views rows xs ys) (hu : Rds w ro ρ us xs) (ρ' : Rho) : Rds w (roAll ro ρ) ρ' us ys := by
  obtain ⟨h1, h2⟩ := h.get
  refine ⟨hu.1.trans h1, fun i u y hi hy => ?_⟩
  obtain ⟨x, hx⟩ := get_iff (l := xs) (i := i) (by rw [h1]; exact (List.getElem?_eq_some_iff.1 hy).1)
  exact (h2 i x y hx hy).rd g (hu.2 i u x hi hx) ρ'

theorem Good.start {w : World} {ro : Nat → Prop} (h : ∀ b, ro b → b < w.heap.size) : Good ⟨w, ro, []⟩ [] w ro [] :=
  ⟨rfl, rfl, rfl, Nat.le_refl _, fun _ _ _ => rfl, h, fun b hb => .inl hb, rfl, fun id x h => by simp at h, fun i j x y h => by simp at h, fun id r h => by simp at h, Ext.refl _ _ _⟩

/-- Blocks that no row holds become read only. -/
theorem Good.roMore {c : Ctx} {rows : List Row} {w : World} {ro ro' : Nat → Prop} {ρ : Rho} (g : Good c rows w ro ρ) (hk : ∀ b, ro b → ro' b)
    (hn : ∀ b, ro' b → ro b ∨ (b < w.heap.size ∧ (∀ (id : Nat) x, ρ[id]? = some (.on x) → x.b ≠ b) ∧ (c.may b ∨ c.w.heap.size ≤ b))) : Good c rows w ro' ρ ∧ Ext w ro ρ w ro' ρ := by
  have hext : Ext w ro ρ w ro' ρ := ⟨hk, fun _ _ => rfl, fun id y h _ => ⟨y, h, .inr rfl⟩⟩
  refine ⟨⟨g.os, g.tape, g.output, g.size, g.old, fun b hb => ?_, fun b hb => ?_, g.len, fun j y hy => ⟨(g.ownNew j y hy).1, fun h => ?_⟩, g.inj, fun j r hr => ?_, g.ext.trans hext⟩, hext⟩
  · rcases hn b hb with h | h
    · exact g.roLt b h
    · exact h.1
  · rcases hn b hb with h | h
    · exact g.roNew b h
    · exact .inr h.2.2
  · rcases hn _ h with h | h
    · exact (g.ownNew j y hy).2 h
    · exact h.2.1 j y hy rfl
  · have := g.row j r hr
    cases r with
    | resv => exact this
    | dead => exact this
    | live ds =>
      rcases this with ⟨y, hy, hat⟩ | hv
      · exact .inl ⟨y, hy, hat.ext hext rfl⟩
      · exact .inr hv

/-- A call of a function that only reads, its arguments seen through a view; or a result that may share memory with arguments that name no row. -/
def acallR (P : Program) (f : FuncId) (args : List V) (rows : List Row) (k : KV) : Prop :=
  (∃ args' r, Views rows args args' ∧ PCall P f args' r ∧ r.Flat ∧ k r rows) ∨ (∃ r, (∀ x ∈ args, x.Pure) ∧ PCall P f args r ∧ k r rows)

theorem calls_acallR {P : Program} {c : Ctx} {rows : List Row} {w : World} {ro : Nat → Prop} {ρ : Rho} {k : KV} {f : FuncId} {args : List V} {vs : Array Value} (g : Good c rows w ro ρ) (ha : Rds w ro ρ vs.toList args)
    (h : acallR P f args rows k) : Enters P f ∧ Calls P f vs w fun e w' => ∃ v, e = .returned v ∧ OpOk c k w ro ρ v w' := by
  rcases h with ⟨args', r, hv, ⟨hp, hent, hcall⟩, hfl, hk⟩ | ⟨r, hpa, ⟨hp, hent, hcall⟩, hk⟩
  · refine ⟨hent, ?_⟩
    have hmay : ∀ b, ¬ (Ctx.may ⟨w, roAll ro ρ, []⟩ b) := fun b ⟨id, x, h, _⟩ => by simp at h
    have hlt : ∀ b, roAll ro ρ b → b < w.heap.size := by
      rintro b (h | ⟨id, x, h, rfl⟩)
      · exact g.roLt b h
      · exact g.ownLt h
    refine (hcall w (roAll ro ρ) [] vs (Good.start hlt) (hv.rds g ha [])).mono ?_
    rintro e w' ⟨v, r', rows', ro', ρ', rfl, rfl, g', hr⟩
    obtain ⟨g1, e1⟩ := g.world g'.os g'.tape g'.output g'.size fun b hb _ => g'.old b hb (hmay b)
    exact ⟨v, rfl, r', rows, ro, ρ, hk, g1, hr.flat hfl _ _ _, e1⟩
  · refine ⟨hent, ?_⟩
    have hmay : ∀ b, ¬ (Ctx.may ⟨w, ro, []⟩ b) := fun b ⟨id, x, h, _⟩ => by simp at h
    have ha' : Rds w ro [] vs.toList args := ⟨ha.1, fun i u x hu hx => (ha.2 i u x hu hx).pure (hpa x (mem_of_getElem? hx)) []⟩
    refine (hcall w ro [] vs (Good.start g.roLt) ha').mono ?_
    rintro e w' ⟨v, r', rows', ro', ρ', rfl, rfl, g', hr⟩
    obtain ⟨g1, e1⟩ := g.world g'.os g'.tape g'.output g'.size fun b hb _ => g'.old b hb (hmay b)
    obtain ⟨g2, e2⟩ := g1.roMore (ro' := ro') (fun b hb => g'.ext.keep b hb) (fun b hb => by
      rcases g'.roNew b hb with h | h | h
      · exact .inl h
      · exact absurd h (hmay b)
      · exact .inr ⟨g'.roLt b hb, fun id x hx he => by have := g.ownLt hx; simp at h; omega, .inr (Nat.le_trans g.size h)⟩)
    exact ⟨v, rfl, r', rows, ro', ρ, hk, g2, hr.pure hp ρ, e1.trans e2⟩

end Go.VS
