/-
 VALUE SEMANTICS, 10: contracts of functions; views of rows as read-only memory; rows under other numbers.
 Conditions: none.
-/
import Derived.Test.YtnpndfmbkmbhbaaGreatDoorGa
set_option linter.all false
namespace Go.VS

def Enters (P : Program) (f : FuncId) : Prop := ∀ args w, (callFunc f args).run P w = .ok (.enter f args) w

def GOk (P : Program) (c : Ctx) : Prop := ∀ g, P.globalNamed "internal/bytealg.MaxLen" = some g → c.ro g ∧ ∃ m, c.w.cell? ⟨g, 0, none⟩ = some (.int .i64 m)

theorem GOk.at {P : Program} {c : Ctx} {rows : List Row} {w : World} {ro ro' : Nat → Prop} {ρ ρ' : Rho} (go : GOk P c) (g : Good c rows w ro ρ) (h : ∀ b, ro b → ro' b) : GOk P ⟨w, ro', ρ'⟩ := by
 intro k hk
 obtain ⟨h1, m, h2⟩ := go k hk
 refine ⟨h _ (g.ext.keep k h1), m, ?_⟩
 show w.cell? _ = _
 have := g.ext.heap k h1
 unfold World.cell? at h2 ⊢
 simp only [this]
 exact h2

theorem GOk.none {P : Program} {c : Ctx} (h : P.globalNamed "internal/bytealg.MaxLen" = none) : GOk P c := fun g hg => by rw [h] at hg; simp at hg

def ACalls (P : Program) (f : FuncId) (args : List V) (rows : List Row) (R : V → List Row → Prop) : Prop :=
 Enters P f ∧ ∀ (w : World) (ro : Nat → Prop) (ρ : Rho) (vs : Array Value), Good ⟨w, ro, ρ⟩ rows w ro ρ → GOk P ⟨w, ro, ρ⟩ → Rds w ro ρ vs.toList args →
  Calls P f vs w fun e w' => ∃ v r rows' ro' ρ', e = .returned v ∧ R r rows' ∧ Good ⟨w, ro, ρ⟩ rows' w' ro' ρ' ∧ Rd w' ro' ρ' v r

def PCall (P : Program) (f : FuncId) (args : List V) (r : V) : Prop := r.Pure ∧ ACalls P f args [] fun r' _ => r' = r

theorem ACalls.mono {P : Program} {f : FuncId} {args : List V} {rows : List Row} {R R' : V → List Row → Prop} (h : ACalls P f args rows R) (hr : ∀ r rows', R r rows' → R' r rows') : ACalls P f args rows R' :=
 ⟨h.1, fun w ro ρ vs g go ha => (h.2 w ro ρ vs g go ha).mono fun e w' ⟨v, r, rows', ro', ρ', h1, h2, h3⟩ => ⟨v, r, rows', ro', ρ', h1, hr _ _ h2, h3⟩⟩


inductive V.Flat : V → Prop
 | bool {b} : Flat (.bool b)
 | int {k n} : Flat (.int k n)
 | str {s} : Flat (.str s)
 | nilp : Flat .nilp
 | nils : Flat .nils
 | nilf : Flat .nilf
 | niface : Flat .niface
 | val {u} : Flat (.val u)
 | junk : Flat .junk
 | iface {t x} : Flat x → Flat (.iface t x)
 | agg {c} : (∀ x ∈ c, Flat x) → Flat (.agg c)
 | tup {c} : (∀ x ∈ c, Flat x) → Flat (.tup c)

attribute [simp] V.Flat.bool V.Flat.int V.Flat.str V.Flat.nilp V.Flat.nils V.Flat.nilf V.Flat.niface V.Flat.val V.Flat.junk
@[simp] theorem V.flat_agg {c : List V} : (V.agg c).Flat ↔ ∀ x ∈ c, x.Flat := ⟨fun h => by cases h; assumption, .agg⟩
@[simp] theorem V.flat_tup {c : List V} : (V.tup c).Flat ↔ ∀ x ∈ c, x.Flat := ⟨fun h => by cases h; assumption, .tup⟩
@[simp] theorem V.flat_iface {t : TypeId} {x : V} : (V.iface t x).Flat ↔ x.Flat := ⟨fun h => by cases h; assumption, .iface⟩

theorem Rd.flat {w : World} {ro : Nat → Prop} {ρ : Rho} {u : Value} {x : V} (h : Rd w ro ρ u x) : x.Flat → ∀ (w' : World) (ro' : Nat → Prop) (ρ' : Rho), Rd w' ro' ρ' u x := by
 induction h with
 | bool => exact fun _ _ _ _ => .bool
 | int => exact fun _ _ _ _ => .int
 | str => exact fun _ _ _ _ => .str
 | nilp => exact fun _ _ _ _ => .nilp
 | ref => intro h; cases h
 | rptr => intro h; cases h
 | nils => exact fun _ _ _ _ => .nils
 | sl0 => intro h; cases h
 | slz => intro h; cases h
 | sl => intro h; cases h
 | osl0 => intro h; cases h
 | osl => intro h; cases h
 | fn => intro h; cases h
 | nilf => exact fun _ _ _ _ => .nilf
 | niface => exact fun _ _ _ _ => .niface
 | iface _ ih => exact fun hp w' ro' ρ' => .iface (ih (V.flat_iface.1 hp) w' ro' ρ')
 | agg h1 _ ih => exact fun hp w' ro' ρ' => .agg h1 fun i u x hu hx => ih i u x hu hx (V.flat_agg.1 hp x (mem_of_getElem? hx)) w' ro' ρ'
 | tup h1 _ ih => exact fun hp w' ro' ρ' => .tup h1 fun i u x hu hx => ih i u x hu hx (V.flat_tup.1 hp x (mem_of_getElem? hx)) w' ro' ρ'
 | val => exact fun _ _ _ _ => .val
 | junk => exact fun _ _ _ _ => .junk


inductive View (rows : List Row) : V → V → Prop
 | pure {x} : x.Pure → View rows x x
 | junk {x} : View rows x .junk
 | osl {id off n sz cs cs'} : rows[id]? = some (.live cs) → off + n * sz ≤ cs.length → cs'.length = n * sz →
   (∀ (i : Nat) x y, cs[off + i]? = some x → cs'[i]? = some y → View rows x y) → View rows (.osl id off n sz) (.sl n cs')
 | ref {id off cs cs'} : rows[id]? = some (.live cs) → cs ≠ [] → off + cs'.length ≤ cs.length →
   (∀ (i : Nat) x y, cs[off + i]? = some x → cs'[i]? = some y → View rows x y) → View rows (.ref id off) (.rptr cs')
 | fn {f c d} : c.length = d.length → (∀ (i : Nat) x y, c[i]? = some x → d[i]? = some y → View rows x y) → View rows (.fn f c) (.fn f d)
 | iface {t x y} : View rows x y → View rows (.iface t x) (.iface t y)
 | agg {c d} : c.length = d.length → (∀ (i : Nat) x y, c[i]? = some x → d[i]? = some y → View rows x y) → View rows (.agg c) (.agg d)
 | tup {c d} : c.length = d.length → (∀ (i : Nat) x y, c[i]? = some x → d[i]? = some y → View rows x y) → View rows (.tup c) (.tup d)

def roAll (ro : Nat → Prop) (ρ : Rho) (b : Nat) : Prop := ro b ∨ ∃ (id : Nat) (x : Own), ρ[id]? = some (.on x) ∧ x.b = b

theorem get_iff {α : Type} {l : List α} {i : Nat} (h : i < l.length) : ∃ x, l[i]? = some x := ⟨l[i], by simp [h]⟩

theorem View.rd {c : Ctx} {rows : List Row} {w : World} {ro : Nat → Prop} {ρ : Rho} (g : Good c rows w ro ρ) {x y : V} (h : View rows x y) : ∀ {u : Value}, Rd w ro ρ u x → ∀ ρ', Rd w (roAll ro ρ) ρ' u y := by
 induction h with
 | pure hp =>
  intro u hu ρ'
  have h1 := hu.pure hp ([] : Rho)
  exact h1.ext ⟨fun _ h => .inl h, fun _ _ => rfl, fun id y h => by simp at h⟩
 | junk => exact fun _ _ => .junk
 | @osl id off n sz cs cs' h1 h2 h3 _ ih =>
  intro u hu ρ'
  rcases rd_osl g hu h1 with ⟨rfl, rfl, rfl, -⟩ | ⟨y, o, cap, hy, hat, rfl, ho, hn, hm⟩
  ·have : cs' = [] := List.eq_nil_of_length_eq_zero (by simpa using h3)
   subst this
   exact .sl0
  ·by_cases hc0 : cap = 0
   ·subst hc0
    obtain rfl : n = 0 := by omega
    have : cs' = [] := List.eq_nil_of_length_eq_zero (by simpa using h3)
    subst this
    exact CellsAt.sl (fun i v hv => by simp at hv) (.inr ⟨id, y, hy, rfl⟩) (Nat.le_refl _)
   ·obtain rfl : o = y.o + off := by rcases ho with h | h; exact absurd h hc0; exact h
    refine CellsAt.sl (fun i v hv => ?_) (.inr ⟨id, y, hy, rfl⟩) hn
    have hlt := (List.getElem?_eq_some_iff.1 hv).1
    obtain ⟨x, hx⟩ := get_iff (l := cs) (i := off + i) (by omega)
    obtain ⟨q, hq, hr⟩ := hat.cellsAt (off + i) x hx
    exact ⟨q, by rwa [show y.o + (off + i) = y.o + off + i by omega] at hq, ih i x v hx hv hr []⟩
 | @ref id off cs cs' h1 h2 h3 _ ih =>
  intro u hu ρ'
  obtain ⟨y, hy, hat, rfl⟩ := rd_ref g hu h1
  refine CellsAt.rptr (fun i v hv => ?_) (.inr ⟨id, y, hy, rfl⟩)
  have hlt := (List.getElem?_eq_some_iff.1 hv).1
  obtain ⟨x, hx⟩ := get_iff (l := cs) (i := off + i) (by omega)
  obtain ⟨q, hq, hr⟩ := hat.cellsAt (off + i) x hx
  exact ⟨q, by rwa [show y.o + (off + i) = y.o + off + i by omega] at hq, ih i x v hx hv hr []⟩
 | fn hl _ ih =>
  intro u hu ρ'
  cases hu with
  | fn h0 h1 h2 =>
   refine .fn h0 (h1.trans hl) fun i u y hu hy => ?_
   obtain ⟨x, hx⟩ := get_iff (i := i) (by rw [hl]; exact (List.getElem?_eq_some_iff.1 hy).1)
   exact ih i x y hx hy (h2 i u x hu hx) ρ'
 | iface _ ih =>
  intro u hu ρ'
  cases hu with
  | iface h => exact .iface (ih h ρ')
 | agg hl _ ih =>
  intro u hu ρ'
  cases hu with
  | agg h1 h2 =>
   refine .agg (h1.trans hl) fun i u y hu hy => ?_
   obtain ⟨x, hx⟩ := get_iff (i := i) (by rw [hl]; exact (List.getElem?_eq_some_iff.1 hy).1)
   exact ih i x y hx hy (h2 i u x hu hx) ρ'
 | tup hl _ ih =>
  intro u hu ρ'
  cases hu with
  | tup h1 h2 =>
   refine .tup (h1.trans hl) fun i u y hu hy => ?_
   obtain ⟨x, hx⟩ := get_iff (i := i) (by rw [hl]; exact (List.getElem?_eq_some_iff.1 hy).1)
   exact ih i x y hx hy (h2 i u x hu hx) ρ'

theorem View.row {rows : List Row} {id n sz : Nat} {cs : List V} (h : rows[id]? = some (.live cs)) (hl : cs.length = n * sz) (hp : ∀ x ∈ cs, x.Pure) : View rows (.osl id 0 n sz) (.sl n cs) :=
 .osl h (by omega) hl fun i x y hx hy => by
  rw [Nat.zero_add, hy] at hx
  simp at hx
  subst hx
  exact .pure (hp _ (mem_of_getElem? hy))

theorem View.part {rows : List Row} {id off n sz : Nat} {cs : List V} (h : rows[id]? = some (.live cs)) (hl : off + n * sz ≤ cs.length) (hp : ∀ x ∈ cs, x.Pure) : View rows (.osl id off n sz) (.sl n ((cs.drop off).take (n * sz))) :=
 .osl h hl (by simp; omega) fun i x y hx hy => by
  rw [List.getElem?_take] at hy
  split at hy
  ·rw [List.getElem?_drop, hx] at hy
   simp at hy
   subst hy
   exact .pure (hp _ (mem_of_getElem? hx))
  ·simp at hy

theorem View.cell {rows : List Row} {id off : Nat} {cs : List V} (h : rows[id]? = some (.live cs)) (hn : cs ≠ []) (hl : off ≤ cs.length) (hp : ∀ x ∈ cs, x.Pure) : View rows (.ref id off) (.rptr (cs.drop off)) :=
 .ref h hn (by simp; omega) fun i x y hx hy => by
  rw [List.getElem?_drop, hx] at hy
  simp at hy
  subst hy
  exact .pure (hp _ (mem_of_getElem? hx))

def Views (rows : List Row) : List V → List V → Prop
 | [], [] => True
 | x :: xs, y :: ys => View rows x y ∧ Views rows xs ys
 | _, _ => False

theorem Views.get {rows : List Row} : ∀ {xs ys : List V}, Views rows xs ys → xs.length = ys.length ∧ ∀ (i : Nat) x y, xs[i]? = some x → ys[i]? = some y → View rows x y
 | [], [], _ => ⟨rfl, fun i x y h => by simp at h⟩
 | [], _ :: _, h => h.elim
 | _ :: _, [], h => h.elim
 | x :: xs, y :: ys, h => by
  obtain ⟨h1, h2⟩ := Views.get h.2
  refine ⟨by simp [h1], fun i a b ha hb => ?_⟩
  cases i with
  | zero => simp at ha hb; subst ha; subst hb; exact h.1
  | succ i => exact h2 i a b (by simpa using ha) (by simpa using hb)

theorem Views.rds {c : Ctx} {rows : List Row} {w : World} {ro : Nat → Prop} {ρ : Rho} (g : Good c rows w ro ρ) {us : List Value} {xs ys : List V} (h : Views rows xs ys) (hu : Rds w ro ρ us xs) (ρ' : Rho) : Rds w (roAll ro ρ) ρ' us ys := by
 obtain ⟨h1, h2⟩ := h.get
 refine ⟨hu.1.trans h1, fun i u y hi hy => ?_⟩
 obtain ⟨x, hx⟩ := get_iff (l := xs) (i := i) (by rw [h1]; exact (List.getElem?_eq_some_iff.1 hy).1)
 exact (h2 i x y hx hy).rd g (hu.2 i u x hi hx) ρ'

theorem Good.start {w : World} {ro : Nat → Prop} (h : ∀ b, ro b → b < w.heap.size) : Good ⟨w, ro, []⟩ [] w ro [] :=
 ⟨rfl, rfl, rfl, Nat.le_refl _, fun _ _ _ => rfl, h, fun b hb => .inl hb, rfl, fun id x h => by simp at h, fun i j x y h => by simp at h, fun id r h => by simp at h, Ext.refl _ _ _⟩

theorem Good.roMore {c : Ctx} {rows : List Row} {w : World} {ro ro' : Nat → Prop} {ρ : Rho} (g : Good c rows w ro ρ) (hk : ∀ b, ro b → ro' b)
  (hn : ∀ b, ro' b → ro b ∨ (b < w.heap.size ∧ (∀ (id : Nat) x, ρ[id]? = some (.on x) → x.b ≠ b) ∧ (c.may b ∨ c.w.heap.size ≤ b))) : Good c rows w ro' ρ ∧ Ext w ro ρ w ro' ρ := by
 have hext : Ext w ro ρ w ro' ρ := ⟨hk, fun _ _ => rfl, fun id y h _ => ⟨y, h, .inr rfl⟩⟩
 refine ⟨⟨g.os, g.tape, g.output, g.size, g.old, fun b hb => ?_, fun b hb => ?_, g.len, fun j y hy => ⟨(g.ownNew j y hy).1, fun h => ?_⟩, g.inj, fun j r hr => ?_, g.ext.trans hext⟩, hext⟩
 ·rcases hn b hb with h | h
  ·exact g.roLt b h
  ·exact h.1
 ·rcases hn b hb with h | h
  ·exact g.roNew b h
  ·exact .inr h.2.2
 ·rcases hn _ h with h | h
  ·exact (g.ownNew j y hy).2 h
  ·exact h.2.1 j y hy rfl
 ·have := g.row j r hr
  cases r with
  | resv => exact this
  | dead => exact this
  | live ds =>
   rcases this with ⟨y, hy, hat⟩ | hv
   ·exact .inl ⟨y, hy, hat.ext hext rfl⟩
   ·exact .inr hv

def acallR (P : Program) (f : FuncId) (args : List V) (rows : List Row) (k : KV) : Prop :=
 (∃ args' r, Views rows args args' ∧ PCall P f args' r ∧ r.Flat ∧ k r rows) ∨ (∃ r, (∀ x ∈ args, x.Pure) ∧ PCall P f args r ∧ k r rows)

theorem calls_acallR {P : Program} {c : Ctx} {rows : List Row} {w : World} {ro : Nat → Prop} {ρ : Rho} {k : KV} {f : FuncId} {args : List V} {vs : Array Value} (go : GOk P c) (g : Good c rows w ro ρ) (ha : Rds w ro ρ vs.toList args)
  (h : acallR P f args rows k) : Enters P f ∧ Calls P f vs w fun e w' => ∃ v, e = .returned v ∧ OpOk c k w ro ρ v w' := by
 rcases h with ⟨args', r, hv, ⟨hp, hent, hcall⟩, hfl, hk⟩ | ⟨r, hpa, ⟨hp, hent, hcall⟩, hk⟩
 ·refine ⟨hent, ?_⟩
  have hmay : ∀ b, ¬ (Ctx.may ⟨w, roAll ro ρ, []⟩ b) := fun b ⟨id, x, h, _⟩ => by simp at h
  have hlt : ∀ b, roAll ro ρ b → b < w.heap.size := by
   rintro b (h | ⟨id, x, h, rfl⟩)
   ·exact g.roLt b h
   ·exact g.ownLt h
  refine (hcall w (roAll ro ρ) [] vs (Good.start hlt) (go.at g fun b hb => .inl hb) (hv.rds g ha [])).mono ?_
  rintro e w' ⟨v, r', rows', ro', ρ', rfl, rfl, g', hr⟩
  obtain ⟨g1, e1⟩ := g.world g'.os g'.tape g'.output g'.size fun b hb _ => g'.old b hb (hmay b)
  exact ⟨v, rfl, r', rows, ro, ρ, hk, g1, hr.flat hfl _ _ _, e1⟩
 ·refine ⟨hent, ?_⟩
  have hmay : ∀ b, ¬ (Ctx.may ⟨w, ro, []⟩ b) := fun b ⟨id, x, h, _⟩ => by simp at h
  have ha' : Rds w ro [] vs.toList args := ⟨ha.1, fun i u x hu hx => (ha.2 i u x hu hx).pure (hpa x (mem_of_getElem? hx)) []⟩
  refine (hcall w ro [] vs (Good.start g.roLt) (go.at g fun b hb => hb) ha').mono ?_
  rintro e w' ⟨v, r', rows', ro', ρ', rfl, rfl, g', hr⟩
  obtain ⟨g1, e1⟩ := g.world g'.os g'.tape g'.output g'.size fun b hb _ => g'.old b hb (hmay b)
  obtain ⟨g2, e2⟩ := g1.roMore (ro' := ro') (fun b hb => g'.ext.keep b hb) (fun b hb => by
   rcases g'.roNew b hb with h | h | h
   ·exact .inl h
   ·exact absurd h (hmay b)
   ·exact .inr ⟨g'.roLt b hb, fun id x hx he => by have := g.ownLt hx; simp at h; omega, .inr (Nat.le_trans g.size h)⟩)
  exact ⟨v, rfl, r', rows, ro', ρ, hk, g2, hr.pure hp ρ, e1.trans e2⟩

end Go.VS
set_option linter.all false
namespace Go.VS

inductive Ren (ex : Bool) (m : List (Option Nat)) : V → V → Prop
 | pure {x} : x.Pure → Ren ex m x x
 | junk {x} : ex = false → Ren ex m .junk x
 | nil {j o s} : ex = false → m[j]? = some none → Ren ex m (.osl j o 0 s) .nils
 | ref {j i o} : m[j]? = some (some i) → Ren ex m (.ref j o) (.ref i o)
 | osl {j i o n s} : m[j]? = some (some i) → Ren ex m (.osl j o n s) (.osl i o n s)
 | fn {f c d} : c.length = d.length → (∀ (i : Nat) x y, c[i]? = some x → d[i]? = some y → Ren ex m x y) → Ren ex m (.fn f c) (.fn f d)
 | iface {t x y} : Ren ex m x y → Ren ex m (.iface t x) (.iface t y)
 | agg {c d} : c.length = d.length → (∀ (i : Nat) x y, c[i]? = some x → d[i]? = some y → Ren ex m x y) → Ren ex m (.agg c) (.agg d)
 | tup {c d} : c.length = d.length → (∀ (i : Nat) x y, c[i]? = some x → d[i]? = some y → Ren ex m x y) → Ren ex m (.tup c) (.tup d)

def Rens (ex : Bool) (m : List (Option Nat)) : List V → List V → Prop
 | [], [] => True
 | x :: xs, y :: ys => Ren ex m x y ∧ Rens ex m xs ys
 | _, _ => False

theorem Rens.get {ex : Bool} {m : List (Option Nat)} : ∀ {xs ys : List V}, Rens ex m xs ys → xs.length = ys.length ∧ ∀ (i : Nat) x y, xs[i]? = some x → ys[i]? = some y → Ren ex m x y
 | [], [], _ => ⟨rfl, fun i x y h => by simp at h⟩
 | [], _ :: _, h => h.elim
 | _ :: _, [], h => h.elim
 | x :: xs, y :: ys, h => by
  obtain ⟨h1, h2⟩ := Rens.get h.2
  refine ⟨by simp [h1], fun i a b ha hb => ?_⟩
  cases i with
  | zero => simp at ha hb; subst ha; subst hb; exact h.1
  | succ i => exact h2 i a b (by simpa using ha) (by simpa using hb)

theorem Rd.ren {w : World} {ro : Nat → Prop} {ρ ρ' : Rho} {m : List (Option Nat)} {ex : Bool} {x' x : V} (h : Ren ex m x' x)
  (h1 : ∀ (j i : Nat) y, m[j]? = some (some i) → ρ[i]? = some y → y ≠ .resv → ∃ y', ρ'[j]? = some y' ∧ (y' = .dead ∨ y' = y)) (h2 : ∀ (j : Nat), m[j]? = some none → ρ'[j]? = some .virt) :
  ∀ {u : Value}, Rd w ro ρ u x → Rd w ro ρ' u x' := by
 induction h with
 | pure hp => exact fun hu => hu.pure hp _
 | junk => exact fun _ => .junk
 | nil _ hm =>
  intro u hu
  obtain rfl := rd_nils hu
  exact .osl0 (h2 _ hm) (fun h => by cases h) (fun x h => by cases h)
 | ref hm =>
  intro u hu
  cases hu with
  | ref q1 q2 q3 q4 =>
   obtain ⟨y', hy', hc⟩ := h1 _ _ _ hm q1 q2
   rcases hc with rfl | rfl
   ·exact .ref hy' (fun h => by cases h) (fun h => by cases h) (fun x hx => by cases hx)
   ·exact .ref hy' q2 q3 q4
 | osl hm =>
  intro u hu
  cases hu with
  | osl0 q1 q2 q3 =>
   obtain ⟨y', hy', hc⟩ := h1 _ _ _ hm q1 q2
   rcases hc with rfl | rfl
   ·exact .osl0 hy' (fun h => by cases h) (fun x hx => by cases hx)
   ·exact .osl0 hy' q2 q3
  | osl q1 q2 q3 qle q4 =>
   obtain ⟨y', hy', hc⟩ := h1 _ _ _ hm q1 q2
   rcases hc with rfl | rfl
   ·exact .osl hy' (fun h => by cases h) (fun h => by cases h) qle (fun x hx => by cases hx)
   ·exact .osl hy' q2 q3 qle q4
 | fn hl _ ih =>
  intro u hu
  cases hu with
  | fn q0 q1 q2 =>
   refine .fn q0 (q1.trans hl.symm) fun i u x hu hx => ?_
   obtain ⟨y, hy⟩ := get_iff (i := i) (by rw [← hl]; exact (List.getElem?_eq_some_iff.1 hx).1)
   exact ih i x y hx hy (q2 i u y hu hy)
 | iface _ ih =>
  intro u hu
  cases hu with
  | iface h => exact .iface (ih h)
 | agg hl _ ih =>
  intro u hu
  cases hu with
  | agg q1 q2 =>
   refine .agg (q1.trans hl.symm) fun i u x hu hx => ?_
   obtain ⟨y, hy⟩ := get_iff (i := i) (by rw [← hl]; exact (List.getElem?_eq_some_iff.1 hx).1)
   exact ih i x y hx hy (q2 i u y hu hy)
 | tup hl _ ih =>
  intro u hu
  cases hu with
  | tup q1 q2 =>
   refine .tup (q1.trans hl.symm) fun i u x hu hx => ?_
   obtain ⟨y, hy⟩ := get_iff (i := i) (by rw [← hl]; exact (List.getElem?_eq_some_iff.1 hx).1)
   exact ih i x y hx hy (q2 i u y hu hy)

theorem Rens.rds {w : World} {ro : Nat → Prop} {ρ ρ' : Rho} {m : List (Option Nat)} {ex : Bool} {xs' xs : List V} {us : List Value} (h : Rens ex m xs' xs)
  (h1 : ∀ (j i : Nat) y, m[j]? = some (some i) → ρ[i]? = some y → y ≠ .resv → ∃ y', ρ'[j]? = some y' ∧ (y' = .dead ∨ y' = y)) (h2 : ∀ (j : Nat), m[j]? = some none → ρ'[j]? = some .virt)
  (hu : Rds w ro ρ us xs) : Rds w ro ρ' us xs' := by
 obtain ⟨q1, q2⟩ := h.get
 refine ⟨hu.1.trans q1.symm, fun i u x hi hx => ?_⟩
 obtain ⟨y, hy⟩ := get_iff (l := xs) (i := i) (by rw [← q1]; exact (List.getElem?_eq_some_iff.1 hx).1)
 exact Rd.ren (q2 i x y hx hy) h1 h2 (hu.2 i u y hi hy)

theorem Rd.unren {w : World} {ro : Nat → Prop} {ρ ρ' : Rho} {m : List (Option Nat)} {x' x : V} (h : Ren true m x' x)
  (h1 : ∀ (j i : Nat) y, m[j]? = some (some i) → ρ'[j]? = some y → ρ[i]? = some y) : ∀ {u : Value}, Rd w ro ρ' u x' → Rd w ro ρ u x := by
 generalize hex : true = ex at h
 induction h with
 | pure hp => exact fun hu => hu.pure hp _
 | junk h => subst hex; cases h
 | nil h => subst hex; cases h
 | ref hm =>
  intro u hu
  cases hu with
  | ref q1 q2 q3 q4 => exact .ref (h1 _ _ _ hm q1) q2 q3 q4
 | osl hm =>
  intro u hu
  cases hu with
  | osl0 q1 q2 q3 => exact .osl0 (h1 _ _ _ hm q1) q2 q3
  | osl q1 q2 q3 qle q4 => exact .osl (h1 _ _ _ hm q1) q2 q3 qle q4
 | fn hl _ ih =>
  intro u hu
  cases hu with
  | fn q0 q1 q2 =>
   refine .fn q0 (q1.trans hl) fun i u y hu hy => ?_
   obtain ⟨x, hx⟩ := get_iff (i := i) (by rw [hl]; exact (List.getElem?_eq_some_iff.1 hy).1)
   exact ih i x y hx hy (q2 i u x hu hx)
 | iface _ ih =>
  intro u hu
  cases hu with
  | iface h => exact .iface (ih h)
 | agg hl _ ih =>
  intro u hu
  cases hu with
  | agg q1 q2 =>
   refine .agg (q1.trans hl) fun i u y hu hy => ?_
   obtain ⟨x, hx⟩ := get_iff (i := i) (by rw [hl]; exact (List.getElem?_eq_some_iff.1 hy).1)
   exact ih i x y hx hy (q2 i u x hu hx)
 | tup hl _ ih =>
  intro u hu
  cases hu with
  | tup q1 q2 =>
   refine .tup (q1.trans hl) fun i u y hu hy => ?_
   obtain ⟨x, hx⟩ := get_iff (i := i) (by rw [hl]; exact (List.getElem?_eq_some_iff.1 hy).1)
   exact ih i x y hx hy (q2 i u x hu hx)

def RowRen (ex : Bool) (m : List (Option Nat)) : Row → Row → Prop
 | .dead, r => r ≠ .resv ∧ (ex = true → r = .dead)
 | .live cs', .live cs => Rens ex m cs' cs
 | _, _ => False

structure RowsRen (m : List (Option Nat)) (rows' rows : List Row) : Prop where
 len : rows'.length = m.length
 inj : ∀ (j j' i : Nat), m[j]? = some (some i) → m[j']? = some (some i) → j = j'
 old : ∀ (j i : Nat) r', m[j]? = some (some i) → rows'[j]? = some r' → ∃ r, rows[i]? = some r ∧ RowRen false m r' r
 new : ∀ (j : Nat) r', m[j]? = some none → rows'[j]? = some r' → r' = .live []

def rhoRen (m : List (Option Nat)) (rows' : List Row) (ρ : Rho) : Rho :=
 m.zipIdx.map fun (q : Option Nat × Nat) => match q.1 with
  | none => .virt
  | some i => match rows'[q.2]? with
   | some (.live _) => (ρ[i]?).getD .dead
   | _ => .dead

theorem rhoRen_get {m : List (Option Nat)} {rows' : List Row} {ρ : Rho} {j : Nat} : (rhoRen m rows' ρ)[j]? = (m[j]?).map fun q => match q with
  | none => .virt
  | some i => match rows'[j]? with
   | some (.live _) => (ρ[i]?).getD .dead
   | _ => .dead := by
 unfold rhoRen
 rw [List.getElem?_map, List.getElem?_zipIdx]
 cases m[j]? <;> simp

theorem rhoRen_on {m : List (Option Nat)} {rows' : List Row} {ρ : Rho} {j : Nat} {x : Own} (hj : (rhoRen m rows' ρ)[j]? = some (.on x)) : ∃ i, m[j]? = some (some i) ∧ ρ[i]? = some (.on x) := by
 rw [rhoRen_get] at hj
 cases hmj : m[j]? with
 | none => simp [hmj] at hj
 | some q =>
  cases q with
  | none => simp [hmj] at hj
  | some i =>
   refine ⟨i, rfl, ?_⟩
   simp only [hmj, Option.map_some] at hj
   split at hj
   ·cases hρ : ρ[i]? with
    | none => simp [hρ] at hj
    | some y => simp [hρ] at hj; rw [hj]
   ·simp at hj

section
variable {c : Ctx} {rows rows' : List Row} {w : World} {ro : Nat → Prop} {ρ : Rho} {m : List (Option Nat)}

theorem RowsRen.fwd (hm : RowsRen m rows' rows) (g : Good c rows w ro ρ) : (∀ (j i : Nat) y, m[j]? = some (some i) → ρ[i]? = some y → y ≠ .resv → ∃ y', (rhoRen m rows' ρ)[j]? = some y' ∧ (y' = .dead ∨ y' = y)) ∧
  ∀ (j : Nat), m[j]? = some none → (rhoRen m rows' ρ)[j]? = some .virt := by
 refine ⟨fun j i y hj hy _ => ?_, fun j hj => by rw [rhoRen_get, hj]; rfl⟩
 rw [rhoRen_get, hj]
 simp only [Option.map_some, hy, Option.getD_some]
 split
 ·exact ⟨y, rfl, .inr rfl⟩
 ·exact ⟨.dead, rfl, .inl rfl⟩

theorem Good.ren (g : Good c rows w ro ρ) (hm : RowsRen m rows' rows) {c' : Ctx} (hos : w.os = c'.w.os) (htape : w.tape = c'.w.tape) (hout : w.output = c'.w.output) (hsize : c'.w.heap.size ≤ w.heap.size)
  (hold : ∀ b, b < c'.w.heap.size → ¬ c'.may b → w.heap[b]? = c'.w.heap[b]?) (hroNew : ∀ b, ro b → c'.ro b ∨ c'.may b ∨ c'.w.heap.size ≤ b)
  (hown : ∀ (j : Nat) x, (rhoRen m rows' ρ)[j]? = some (.on x) → c'.may x.b ∨ c'.w.heap.size ≤ x.b) (hext : Ext c'.w c'.ro c'.ρ w ro (rhoRen m rows' ρ)) :
  Good c' rows' w ro (rhoRen m rows' ρ) := by
 obtain ⟨f1, f2⟩ := hm.fwd g
 have hon := fun (j : Nat) x => rhoRen_on (m := m) (rows' := rows') (ρ := ρ) (j := j) (x := x)
 refine ⟨hos, htape, hout, hsize, hold, g.roLt, hroNew, by simp [rhoRen, hm.len], fun j x hj => ?_, fun j j' x y hj hj' hb => ?_, fun j r' hr' => ?_, hext⟩
 ·obtain ⟨i, h1, h2⟩ := hon j x hj
  exact ⟨hown j x hj, (g.ownNew i x h2).2⟩
 ·obtain ⟨i, h1, h2⟩ := hon j x hj
  obtain ⟨i', h1', h2'⟩ := hon j' y hj'
  have := g.inj i i' x y h2 h2' hb
  subst this
  exact hm.inj j j' i h1 h1'
 ·have hlt : j < m.length := by rw [← hm.len]; exact (List.getElem?_eq_some_iff.1 hr').1
  obtain ⟨q, hq⟩ := get_iff hlt
  cases q with
  | none =>
   have := hm.new j r' hq hr'
   subst this
   exact .inr ⟨rfl, f2 j hq⟩
  | some i =>
   obtain ⟨r, hr, hrr⟩ := hm.old j i r' hq hr'
   have hget : (rhoRen m rows' ρ)[j]? = some (match (some r' : Option Row) with | some (.live _) => (ρ[i]?).getD .dead | _ => .dead) := by rw [rhoRen_get, hq, hr']; rfl
   cases r' with
   | resv => exact hrr.elim
   | dead => exact hget
   | live cs' =>
    cases r with
    | resv => exact hrr.elim
    | dead => exact hrr.elim
    | live cs =>
     simp only at hget
     rcases g.row i _ hr with ⟨x, hx, C, e, fr, p1, p2, p3, p4, p5⟩ | ⟨hc, hv⟩
     ·rw [hx, Option.getD_some] at hget
      obtain ⟨q1, q2⟩ := Rens.get hrr
      refine .inl ⟨x, hget, C, e, fr, p1, p2, p3, by omega, fun k v hv => ?_⟩
      obtain ⟨v0, hv0⟩ := get_iff (l := cs) (i := k) (by rw [← q1]; exact (List.getElem?_eq_some_iff.1 hv).1)
      obtain ⟨u, hu, hru⟩ := p5 k v0 hv0
      exact ⟨u, hu, Rd.ren (q2 k v v0 hv hv0) f1 f2 hru⟩
     ·subst hc
      have : cs' = [] := by
       obtain ⟨q1, -⟩ := Rens.get hrr
       exact List.eq_nil_of_length_eq_zero (by simpa using q1)
      subst this
      rw [hv] at hget
      exact .inr ⟨rfl, hget⟩

end


def behind (m : List Nat) (n k : Nat) : List (Option Nat) := m.map some ++ (List.range (k - m.length)).map fun t => some (n + t)

structure Merged (m : List Nat) (rows rows1 rows' : List Row) : Prop where
 le : m.length ≤ rows1.length
 len : rows'.length = rows.length + (rows1.length - m.length)
 upd : ∀ (j i : Nat) r1, (behind m rows.length rows1.length)[j]? = some (some i) → rows1[j]? = some r1 → ∃ r, rows'[i]? = some r ∧ RowRen true (behind m rows.length rows1.length) r1 r
 keep : ∀ (i : Nat), i < rows.length → i ∉ m → rows'[i]? = rows[i]?

def acallW (P : Program) (f : FuncId) (args : List V) (rows : List Row) (k : KV) : Prop :=
 ∃ (m : List Nat) (args1 : List V) (rows1 : List Row) (R : V → List Row → Prop), m.Nodup ∧ RowsRen (m.map some) rows1 rows ∧ Rens false (m.map some) args1 args ∧ ACalls P f args1 rows1 R ∧
  ∀ r1 rows1', R r1 rows1' → ∃ r rows', Merged m rows rows1' rows' ∧ Ren true (behind m rows.length rows1'.length) r1 r ∧ k r rows'

theorem behind_get {m : List Nat} {n k j : Nat} : (behind m n k)[j]? = if j < m.length then (m[j]?).map some else if j < k then some (some (n + (j - m.length))) else none := by
 unfold behind
 rw [List.getElem?_append]
 split
 ·rename_i h
  rw [if_pos (by simpa using h)]
  simp
 ·rename_i h
  simp at h
  rw [if_neg (by omega), List.getElem?_map, List.length_map]
  split
  ·rw [List.getElem?_range (by omega)]; simp
  ·rw [List.getElem?_eq_none (by simp; omega)]; simp

open Classical in
noncomputable def rhoBack (M : List (Option Nat)) (n : Nat) (ρ ρ1 : Rho) : Rho :=
 (List.range n).map fun i => if h : ∃ j : Nat, M[j]? = some (some i) then (ρ1[Classical.choose h]?).getD .dead else (ρ[i]?).getD .dead

theorem calls_acallW {P : Program} {c : Ctx} {rows : List Row} {w : World} {ro : Nat → Prop} {ρ : Rho} {k : KV} {f : FuncId} {args : List V} {vs : Array Value} (go : GOk P c) (g : Good c rows w ro ρ) (ha : Rds w ro ρ vs.toList args)
  (h : acallW P f args rows k) : Enters P f ∧ Calls P f vs w fun e w' => ∃ v, e = .returned v ∧ OpOk c k w ro ρ v w' := by
 obtain ⟨m, args1, rows1, R, hnd, hrr, hra, ⟨hent, hcall⟩, hk⟩ := h
 refine ⟨hent, ?_⟩
 obtain ⟨f1, f2⟩ := hrr.fwd g
 generalize hρ1 : rhoRen (m.map some) rows1 ρ = ρ1 at f1 f2
 have hon : ∀ (j : Nat) x, ρ1[j]? = some (.on x) → ∃ i, m[j]? = some i ∧ ρ[i]? = some (.on x) := by
  intro j x hj
  rw [← hρ1] at hj
  obtain ⟨i, h1, h2⟩ := rhoRen_on hj
  exact ⟨i, by simpa using h1, h2⟩
 have g1 : Good ⟨w, ro, ρ1⟩ rows1 w ro ρ1 := by
  have := g.ren hrr (c' := ⟨w, ro, ρ1⟩) rfl rfl rfl (Nat.le_refl _) (fun _ _ _ => rfl) (fun b hb => .inl hb) (fun j x hj => .inl ⟨j, x, by rw [hρ1] at hj; exact hj, rfl⟩) (by rw [hρ1]; exact Ext.refl _ _ _)
  rw [hρ1] at this
  exact this
 have hmlt : ∀ (j i : Nat), m[j]? = some i → i < rows.length := by
  intro j i hj
  have hlt : j < rows1.length := by rw [hrr.len]; simpa using (List.getElem?_eq_some_iff.1 hj).1
  obtain ⟨r', hr'⟩ := get_iff hlt
  obtain ⟨r, hr, -⟩ := hrr.old j i r' (by simp [hj]) hr'
  exact (List.getElem?_eq_some_iff.1 hr).1
 refine (hcall w ro ρ1 vs g1 (go.at g fun b hb => hb) (hra.rds f1 f2 ha)).mono ?_
 rintro e w' ⟨v, r1, rows1', ro', ρ1', rfl, hR, g', hr⟩
 refine ⟨v, rfl, ?_⟩
 obtain ⟨r, rows', hmg, hren, hkk⟩ := hk r1 rows1' hR
 generalize hM : behind m rows.length rows1'.length = M at hmg hren
 have hMget : ∀ j : Nat, M[j]? = if j < m.length then (m[j]?).map some else if j < rows1'.length then some (some (rows.length + (j - m.length))) else none := fun j => by rw [← hM]; exact behind_get
 have hMinj : ∀ (j j' i : Nat), M[j]? = some (some i) → M[j']? = some (some i) → j = j' := by
  intro j j' i h h'
  rw [hMget] at h h'
  split at h <;> split at h'
  ·rename_i q q'
   cases hj : m[j]? with
   | none => simp [hj] at h
   | some a =>
    cases hj' : m[j']? with
    | none => simp [hj'] at h'
    | some b =>
     simp [hj] at h; simp [hj'] at h'
     subst h; subst h'
     exact (List.getElem?_inj q hnd).1 (by rw [hj, hj'])
  ·rename_i q q'
   cases hj : m[j]? with
   | none => simp [hj] at h
   | some a =>
    simp [hj] at h
    subst h
    have := hmlt j a hj
    split at h'
    ·simp at h'; omega
    ·simp at h'
  ·rename_i q q'
   cases hj' : m[j']? with
   | none => simp [hj'] at h'
   | some a =>
    simp [hj'] at h'
    subst h'
    have := hmlt j' a hj'
    split at h
    ·simp at h; omega
    ·simp at h
  ·split at h <;> split at h'
   ·simp at h h'; omega
   ·simp at h'
   ·simp at h
   ·simp at h
 have hMlt : ∀ (j i : Nat), M[j]? = some (some i) → i < rows'.length := by
  intro j i h
  rw [hMget] at h
  rw [hmg.len]
  split at h
  ·cases hj : m[j]? with
   | none => simp [hj] at h
   | some a => simp [hj] at h; subst h; have := hmlt j a hj; omega
  ·split at h
   ·simp at h; omega
   ·simp at h
 have hMm : ∀ (j i : Nat), m[j]? = some i → M[j]? = some (some i) := by
  intro j i h
  rw [hMget, if_pos (List.getElem?_eq_some_iff.1 h).1, h]; rfl
 have hMlen : M.length = rows1'.length := by
  rw [← hM]; unfold behind; simp; have := hmg.le; omega
 generalize hρ' : rhoBack M rows'.length ρ ρ1' = ρ'
 have hgetJ : ∀ (j i : Nat) y, M[j]? = some (some i) → ρ1'[j]? = some y → ρ'[i]? = some y := by
  intro j i y hj hy
  rw [← hρ', rhoBack, List.getElem?_map, List.getElem?_range (hMlt j i hj)]
  have hex : ∃ j : Nat, M[j]? = some (some i) := ⟨j, hj⟩
  simp only [Option.map_some]
  rw [dif_pos hex]
  have : Classical.choose hex = j := hMinj _ _ i (Classical.choose_spec hex) hj
  rw [this, hy]; rfl
 have hgetK : ∀ (i : Nat), i < rows.length → i ∉ m → ρ'[i]? = ρ[i]? := by
  intro i hi hni
  have hlt : i < rows'.length := by rw [hmg.len]; omega
  rw [← hρ', rhoBack, List.getElem?_map, List.getElem?_range hlt]
  have hnex : ¬ ∃ j : Nat, M[j]? = some (some i) := by
   rintro ⟨j, hj⟩
   rw [hMget] at hj
   split at hj
   ·cases hjm : m[j]? with
    | none => simp [hjm] at hj
    | some a => simp [hjm] at hj; subst hj; exact hni (List.mem_of_getElem? hjm)
   ·split at hj
    ·simp at hj; omega
    ·simp at hj
  simp only [Option.map_some]
  rw [dif_neg hnex]
  obtain ⟨y, hy⟩ := get_iff (l := ρ) (i := i) (by rw [g.len]; exact hi)
  rw [hy]; rfl
 have hcase : ∀ (i : Nat) x, ρ'[i]? = some (.on x) → (∃ j : Nat, M[j]? = some (some i) ∧ ρ1'[j]? = some (Pl.on x)) ∨ (i < rows.length ∧ i ∉ m ∧ ρ[i]? = some (Pl.on x)) := by
  intro i x hi
  have hlt : i < rows'.length := by
   have := (List.getElem?_eq_some_iff.1 hi).1
   rw [← hρ'] at this
   simpa [rhoBack] using this
  by_cases him : i ∈ m
  ·obtain ⟨j, hj, rfl⟩ := List.mem_iff_getElem.1 him
   have hjM := hMm j m[j] (by simp [hj])
   obtain ⟨y, hy⟩ := get_iff (l := ρ1') (i := j) (by rw [g'.len]; have := hmg.le; omega)
   have := hgetJ j _ y hjM hy
   rw [this] at hi
   simp at hi
   subst hi
   exact .inl ⟨j, hjM, hy⟩
  ·by_cases hil : i < rows.length
   ·rw [hgetK i hil him] at hi
    exact .inr ⟨hil, him, hi⟩
   ·have hjM : M[i - rows.length + m.length]? = some (some i) := by
     rw [hMget, if_neg (by omega), if_pos (by rw [hmg.len] at hlt; have := hmg.le; omega)]
     congr 2; omega
    obtain ⟨y, hy⟩ := get_iff (l := ρ1') (i := i - rows.length + m.length) (by rw [g'.len]; rw [hmg.len] at hlt; have := hmg.le; omega)
    have := hgetJ _ _ y hjM hy
    rw [this] at hi
    simp at hi
    subst hi
    exact .inl ⟨_, hjM, hy⟩
 have hmay : ∀ b, Ctx.may ⟨w, ro, ρ1⟩ b → ∃ (j i : Nat) (x : Own), m[j]? = some i ∧ ρ[i]? = some (.on x) ∧ x.b = b := by
  rintro b ⟨j, x, hj, hb⟩
  obtain ⟨i, h1, h2⟩ := hon j x hj
  exact ⟨j, i, x, h1, h2, hb⟩
 have hext : Ext w ro ρ w' ro' ρ' := by
  refine ⟨g'.ext.keep, g'.ext.heap, fun i y hy hn => ?_⟩
  have hil : i < rows.length := by rw [← g.len]; exact (List.getElem?_eq_some_iff.1 hy).1
  by_cases him : i ∈ m
  ·obtain ⟨j, hj, rfl⟩ := List.mem_iff_getElem.1 him
   have hjm : m[j]? = some m[j] := by simp [hj]
   obtain ⟨y1, hy1, hc1⟩ := f1 j m[j] y (by simp [hj]) hy hn
   have hn1 : y1 ≠ .resv := by rcases hc1 with rfl | rfl <;> first | exact hn | exact (fun h => by cases h)
   obtain ⟨y2, hy2, hc2⟩ := g'.ext.own j y1 hy1 hn1
   refine ⟨y2, hgetJ j _ y2 (hMm j _ hjm) hy2, ?_⟩
   rcases hc2 with rfl | rfl
   ·exact .inl rfl
   ·exact hc1
  ·exact ⟨y, by rw [hgetK i hil him]; exact hy, .inr rfl⟩
 have hrow1 : ∀ (j i : Nat) r1, M[j]? = some (some i) → rows1'[j]? = some r1 → ∀ r, rows'[i]? = some r → RowRen true M r1 r → RowOk w' ro' ρ' i r := by
  intro j i r1 hj hr1 r hr hrr
  have := g'.row j r1 hr1
  cases r1 with
  | resv => exact hrr.elim
  | dead =>
   obtain rfl := hrr.2 rfl
   exact hgetJ j i _ hj this
  | live cs1 =>
   cases r with
   | resv => exact hrr.elim
   | dead => exact hrr.elim
   | live cs =>
    obtain ⟨q1, q2⟩ := Rens.get hrr
    rcases this with ⟨x, hx, C, e, fr, p1, p2, p3, p4, p5⟩ | ⟨hc, hv⟩
    ·refine .inl ⟨x, hgetJ j i _ hj hx, C, e, fr, p1, p2, p3, by omega, fun t v hv => ?_⟩
     obtain ⟨v1, hv1⟩ := get_iff (l := cs1) (i := t) (by rw [q1]; exact (List.getElem?_eq_some_iff.1 hv).1)
     obtain ⟨u, hu, hru⟩ := p5 t v1 hv1
     exact ⟨u, hu, Rd.unren (q2 t v1 v hv1 hv) hgetJ hru⟩
    ·subst hc
     have : cs = [] := List.eq_nil_of_length_eq_zero (by simpa using q1.symm)
     subst this
     exact .inr ⟨rfl, hgetJ j i _ hj hv⟩
 have gg : Good c rows' w' ro' ρ' := by
  refine ⟨g'.os.trans g.os, g'.tape.trans g.tape, g'.output.trans g.output, Nat.le_trans g.size g'.size, fun b hb hm => ?_, g'.roLt, fun b hb => ?_, by rw [← hρ']; simp [rhoBack], fun i x hi => ?_, fun i i' x y hi hi' hb => ?_, fun i r hr => ?_, g.ext.trans hext⟩
  ·rw [g'.old b (Nat.lt_of_lt_of_le hb g.size) (fun h => by
    obtain ⟨j, i, x, h1, h2, rfl⟩ := hmay b h
    rcases (g.ownNew i x h2).1 with h | h
    ·exact hm h
    ·omega)]
   exact g.old b hb hm
  ·rcases g'.roNew b hb with h | h | h
   ·exact g.roNew b h
   ·obtain ⟨j, i, x, h1, h2, rfl⟩ := hmay b h
    exact .inr (g.ownNew i x h2).1
   ·exact .inr (.inr (Nat.le_trans g.size h))
  ·rcases hcase i x hi with ⟨j, hj, hx⟩ | ⟨hil, him, hx⟩
   ·refine ⟨?_, (g'.ownNew j x hx).2⟩
    rcases (g'.ownNew j x hx).1 with h | h
    ·obtain ⟨j', i', x', h1, h2, hb⟩ := hmay _ h
     rw [← hb]
     exact (g.ownNew i' x' h2).1
    ·exact .inr (Nat.le_trans g.size h)
   ·refine ⟨(g.ownNew i x hx).1, fun h => ?_⟩
    rcases g'.roNew _ h with h | h | h
    ·exact (g.ownNew i x hx).2 h
    ·obtain ⟨j', i', x', h1, h2, hb⟩ := hmay _ h
     have := g.inj i' i x' x h2 hx hb
     subst this
     exact him (List.mem_of_getElem? h1)
    ·have := g.ownLt hx; simp at h; omega
  ·have cross : ∀ (i i' : Nat) x y, (∃ j : Nat, M[j]? = some (some i) ∧ ρ1'[j]? = some (.on x)) → (i' < rows.length ∧ i' ∉ m ∧ ρ[i']? = some (.on y)) → x.b ≠ y.b := by
    rintro i i' x y ⟨j, hj, hx⟩ ⟨hil, him, hy⟩ hb
    rcases (g'.ownNew j x hx).1 with h | h
    ·obtain ⟨j', i'', x', h1, h2, hb'⟩ := hmay _ h
     have := g.inj i'' i' x' y h2 hy (hb'.trans hb)
     subst this
     exact him (List.mem_of_getElem? h1)
    ·have := g.ownLt hy; simp at h; omega
   rcases hcase i x hi with h | h <;> rcases hcase i' y hi' with h' | h'
   ·obtain ⟨j, hj, hx⟩ := h
    obtain ⟨j', hj', hx'⟩ := h'
    have := g'.inj j j' x y hx hx' hb
    subst this
    rw [hj] at hj'
    simp at hj'
    exact hj'
   ·exact absurd hb (cross i i' x y h h')
   ·exact absurd hb.symm (cross i' i y x h' h)
   ·exact g.inj i i' x y h.2.2 h'.2.2 hb
  ·have hlt : i < rows'.length := (List.getElem?_eq_some_iff.1 hr).1
   by_cases him : i ∈ m
   ·obtain ⟨j, hj, rfl⟩ := List.mem_iff_getElem.1 him
    have hjM := hMm j m[j] (by simp [hj])
    obtain ⟨r1, hr1⟩ := get_iff (l := rows1') (i := j) (by have := hmg.le; omega)
    obtain ⟨r2, hr2, hrr2⟩ := hmg.upd j m[j] r1 (by rw [hM]; exact hjM) hr1
    rw [hr] at hr2
    simp at hr2
    subst hr2
    exact hrow1 j m[j] r1 hjM hr1 r hr (by rw [hM] at hrr2; exact hrr2)
   ·by_cases hil : i < rows.length
    ·have hr0 : rows[i]? = some r := by rw [← hmg.keep i hil him]; exact hr
     have := g.row i r hr0
     cases r with
     | resv => show ρ'[i]? = _; rw [hgetK i hil him]; exact this
     | dead => show ρ'[i]? = _; rw [hgetK i hil him]; exact this
     | live cs =>
      rcases this with ⟨x, hx, hat⟩ | ⟨hc, hv⟩
      ·refine .inl ⟨x, by rw [hgetK i hil him]; exact hx, hat.ext hext (g'.old x.b (g.ownLt hx) fun h => ?_)⟩
       obtain ⟨j', i', x', h1, h2, hb⟩ := hmay _ h
       have := g.inj i' i x' x h2 hx hb
       subst this
       exact him (List.mem_of_getElem? h1)
      ·exact .inr ⟨hc, by rw [hgetK i hil him]; exact hv⟩
    ·have hjM : M[i - rows.length + m.length]? = some (some i) := by
      rw [hMget, if_neg (by omega), if_pos (by rw [hmg.len] at hlt; have := hmg.le; omega)]
      congr 2; omega
     obtain ⟨r1, hr1⟩ := get_iff (l := rows1') (i := i - rows.length + m.length) (by rw [hmg.len] at hlt; have := hmg.le; omega)
     obtain ⟨r2, hr2, hrr2⟩ := hmg.upd _ i r1 (by rw [hM]; exact hjM) hr1
     rw [hr] at hr2
     simp at hr2
     subst hr2
     exact hrow1 _ i r1 hjM hr1 r hr (by rw [hM] at hrr2; exact hrr2)
 exact ⟨r, rows', ro', ρ', hkk, gg, Rd.unren hren hgetJ hr, hext⟩

end Go.VS
set_option linter.all false
namespace Go.VS

def acall (P : Program) (draw : Bool) (fv : V) (args : List V) (rows : List Row) (k : KV) : Prop :=
 match fv with
 | .fn (.func f) cap => acallR P f (args ++ cap) rows k ∨ (draw = false ∧ acallW P f (args ++ cap) rows k)
 | _ => False

def aeff (P : Program) (draw : Bool) (op : Op) (id : Nat) (s : List V) (rows : List Row) (k : KV) : Prop :=
 match op with
 | .move x | .assign x => k (oval s x) rows
 | .pick c a b => (match oval s c with
  | .bool t => if t = true then k (oval s a) rows else k (oval s b) rows
  | _ => False)
 | .alloc e => ∃ z, uzero P e = some z ∧ Free rows id ∧ k (.ref id 0) (rput rows id (.live z))
 | .box _ v => abox (oval s v) id rows k
 | .build t parts => abuild P t (oval s) parts.toList fun v => k v rows
 | .buildSlice t len parts => abuildSlice P t len (oval s) parts.toList id rows k
 | .load t a => aload P t (oval s a) rows k
 | .store t a v => astore P t (oval s a) (oval s v) rows k
 | .nilCheck x => (match oval s x with
  | .ref id off => k (.ref id off) rows
  | .rptr cs => k (.rptr cs) rows
  | .fn (.func f) cap => k (.fn (.func f) cap) rows
  | _ => False)
 | .binOp op xt x y _ => abin P op xt (oval s x) (oval s y) fun v => k v rows
 | .unOp op _ x => aun op (oval s x) fun v => k v rows
 | .convert sr d x => aconv P sr d (oval s x) id rows k
 | .makeFunc fn first cap => first = #[] ∧ k (.fn fn (cap.toList.map (oval s))) rows
 | .makeInterface t x => uiface P t = some false ∧ k (.iface t (oval s x)) rows
 | .makeSlice t l c => amakeSlice P t (oval s l) (oval s c) id rows k
 | .slice t x lo hi mx => aslice P t (oval s x) (lo.map (oval s)) (hi.map (oval s)) (mx.map (oval s)) rows k
 | .fieldAddr t x f => afieldAddr P t (oval s x) f rows k
 | .field t x f => afield P t (oval s x) f fun v => k v rows
 | .indexAddr t x i => aindexAddr P t (oval s x) (oval s i) rows k
 | .index t x i => aindex P t (oval s x) (oval s i) fun v => k v rows
 | .extract t i => (match oval s t with
  | .tup vs => ∃ v, vs[i]? = some v ∧ k v rows
  | _ => False)
 | .call c => (match c.callee with
  | .builtin b => abuiltin P b c.argTypes (c.args.toList.map (oval s)) id rows k
  | .value f => acall P draw (oval s f) (c.args.toList.map (oval s)) rows k
  | _ => False)
 | _ => False

def Done (P : Program) (c : Ctx) (k : KV) (w : World) (ro : Nat → Prop) (ρ : Rho) : Result Next → Prop
 | .ok (.value v) w' => OpOk c k w ro ρ v w'
 | .ok .skip w' => OpOk c k w ro ρ undef w'
 | .ok (.enter f args) w' => Calls P f args w' fun e w'' => ∃ v, e = .returned v ∧ OpOk c k w ro ρ v w''
 | _ => False

section
variable {P : Program} {c : Ctx} {rows : List Row} {w : World} {ro : Nat → Prop} {ρ : Rho} {k : KV}

theorem Runs.done {s : Sem Value} (h : Runs P s c k w ro ρ) : Done P c k w ro ρ ((do pure (.value (← s)) : Sem Next).run P w) := by
 obtain ⟨v, w', hr, hok⟩ := h
 simp [hr, Done, hok]

theorem RunsU.done {s : Sem Unit} (h : RunsU P s c k w ro ρ) : Done P c k w ro ρ ((do s; pure .skip : Sem Next).run P w) := by
 obtain ⟨w', hr, hok⟩ := h
 simp [hr, Done, hok]

theorem sget_eq : ∀ (s : List V) (i : Nat), sget s i = (s[i]?).getD .junk
 | [], i => by simp [sget]
 | a :: s, 0 => by simp [sget]
 | a :: s, i + 1 => by simp [sget, sget_eq s i]

theorem sset_eq : ∀ (s : List V) (i : Nat) (v : V), sset s i v = s.set i v
 | [], i, v => by simp [sset]
 | a :: s, 0, v => by simp [sset]
 | a :: s, i + 1, v => by simp [sset, sset_eq s i]

structure Slots (w : World) (ro : Nat → Prop) (ρ : Rho) (a : Act) (s : List V) : Prop where
 rds : Rds w ro ρ a.tmps.toList s
 nodefer : a.defers = []

theorem Slots.eval {a : Act} {s : List V} (h : Slots w ro ρ a s) (x : Operand) : Rd w ro ρ (a.eval x) (oval s x) := by
 cases x with
 | tmp t =>
  simp only [Act.eval, oval, sget_eq]
  cases hs : s[t]? with
  | none => exact .junk
  | some x =>
   obtain ⟨u, hu, hr⟩ := h.rds.get hs
   simp at hu
   rw [Array.getD_eq_getD_getElem?, hu]
   exact hr
 | const v => exact rd_ofConst v
 | global g => exact .val
 | func f => exact .fn rfl rfl fun i u x hu => by simp at hu

theorem Slots.put {a : Act} {s : List V} (h : Slots w ro ρ a s) {v : Value} {x : V} (hv : Rd w ro ρ v x) (dst : Option Tmp) : Slots w ro ρ (a.put dst v) (sput s dst x) := by
 cases dst with
 | none => exact h
 | some d =>
  refine ⟨⟨by simp [Act.put, sput, sset_eq, h.rds.1], fun i u y hu hy => ?_⟩, h.nodefer⟩
  simp only [sput, sset_eq] at hy
  simp only [Act.put, Array.toList_setIfInBounds] at hu
  rw [List.getElem?_set] at hu hy
  by_cases hd : d = i
  ·subst hd
   simp at hu hy
   obtain ⟨_, rfl⟩ := hu
   obtain ⟨_, rfl⟩ := hy
   exact hv
  ·rw [if_neg hd] at hu hy
   exact h.rds.2 i u y hu hy

theorem Slots.ext {a : Act} {s : List V} (h : Slots w ro ρ a s) {w' : World} {ro' : Nat → Prop} {ρ' : Rho} (e : Ext w ro ρ w' ro' ρ') : Slots w' ro' ρ' a s := ⟨h.rds.ext e, h.nodefer⟩

theorem rds_map {a : Act} {s : List V} (h : Slots w ro ρ a s) (xs : List Operand) : Rds w ro ρ (xs.map a.eval) (xs.map (oval s)) :=
 ⟨by simp, fun i u x hu hx => by
  simp at hu hx
  obtain ⟨o, ho, rfl⟩ := hu
  obtain ⟨o', ho', rfl⟩ := hx
  rw [ho] at ho'
  simp at ho'
  subst ho'
  exact h.eval o⟩

theorem ord_map {a : Act} {s : List V} (h : Slots w ro ρ a s) (x : Option Operand) : ORd w ro ρ (x.map a.eval) (x.map (oval s)) := by
 cases x with
 | none => trivial
 | some x => exact h.eval x

theorem done_call {draw : Bool} {a : Act} {s : List V} {f : Operand} {args : Array Operand} {ts : Array TypeId} {ty : TypeId} (go : GOk P c) (hs : Slots w ro ρ a s) (g : Good c rows w ro ρ)
  (h : acall P draw (oval s f) (args.toList.map (oval s)) rows k) : Done P c k w ro ρ ((do let d ← resolve a.eval ⟨.value f, args, ts⟩ ty; invoke d.target d.args : Sem Next).run P w) := by
 have hf := hs.eval f
 generalize oval s f = fv at h hf
 unfold acall at h
 split at h
 ·rename_i f' cap
  cases hfu : a.eval f with
  | func fn fs us =>
   rw [hfu] at hf
   cases hf with
   | fn h0 h1 h2 =>
    subst h0
    have hargs : Rds w ro ρ ((args.map a.eval ++ us).toList) (args.toList.map (oval s) ++ cap) := by
     rw [Array.toList_append, Array.toList_map]
     exact (rds_map hs args.toList).append ⟨by simpa using h1, fun i u x hu hx => h2 i u x (by simpa using hu) hx⟩
    have hcc : Enters P f' ∧ Calls P f' (args.map a.eval ++ us) w fun e w' => ∃ v, e = .returned v ∧ OpOk c k w ro ρ v w' := by
     rcases h with h | ⟨-, h⟩
     ·exact calls_acallR go g hargs h
     ·exact calls_acallW go g hargs h
    simp [resolve, hfu, Deferred.ofValue, invoke, hcc.1 _ _, Done, hcc.2]
  | _ => rw [hfu] at hf; cases hf
 ·exact h.elim

theorem done_builtin {b : Builtin} {a : Act} {s : List V} {id : Nat} {args : Array Operand} {ts : Array TypeId} {ty : TypeId} (hs : Slots w ro ρ a s) (g : Good c rows w ro ρ)
  (h : abuiltin P b ts (args.toList.map (oval s)) id rows k) : Done P c k w ro ρ ((do let d ← resolve a.eval ⟨.builtin b, args, ts⟩ ty; invoke d.target d.args : Sem Next).run P w) := by
 have ha := rds_map hs args.toList
 have harr : args.map a.eval = (args.toList.map a.eval).toArray := by apply Array.ext'; simp
 generalize args.toList.map (oval s) = xs at h ha
 generalize args.toList.map a.eval = us at ha harr
 have two : ∀ {x y : V}, Rds w ro ρ us [x, y] → ∃ u v, us = [u, v] ∧ Rd w ro ρ u x ∧ Rd w ro ρ v y := by
  intro x y hr
  match us, hr with
  | [u, v], hr => exact ⟨u, v, rfl, hr.2 0 u x rfl rfl, hr.2 1 v y rfl rfl⟩
  | [], hr => simp [Rds] at hr
  | [_], hr => simp [Rds] at hr
  | _ :: _ :: _ :: _, hr => simp [Rds] at hr
 unfold abuiltin at h
 split at h
 ·rename_i x
  obtain ⟨t, ht, h⟩ := h
  match us, ha with
  | [u], ha =>
   have := (runs_alen (P := P) (ty := ty) g (ha.2 0 u x rfl rfl) h).done
   have e : Builtin.len_ ts ty #[u] = Builtin.len_ #[t] ty #[u] := by simp [Builtin.len_, ht]
   simpa [resolve, harr, invoke, builtin, e] using this
  | [], ha => simp [Rds] at ha
  | _ :: _ :: _, ha => simp [Rds] at ha
 ·rename_i x y
  obtain ⟨t, t', ht, ht', hor, h⟩ := h
  obtain ⟨u, v, rfl, hu, hv⟩ := two ha
  have := (runs_aappend (P := P) (ty := ty) g hu hv hor h).done
  have e : Builtin.append_ ts ty #[u, v] = Builtin.append_ #[t, t'] ty #[u, v] := by simp [Builtin.append_, ht, ht']
  simpa [resolve, harr, invoke, builtin, e] using this
 ·rename_i x y
  obtain ⟨t, ht, h⟩ := h
  obtain ⟨u, v, rfl, hu, hv⟩ := two ha
  have := (runs_acopy (P := P) (ty := ty) (t' := t) g hu hv h).done
  have e : Builtin.copy_ ts ty #[u, v] = Builtin.copy_ #[t, t] ty #[u, v] := by simp [Builtin.copy_, ht]
  simpa [resolve, harr, invoke, builtin, e] using this
 ·have := (runs_aminmax (P := P) (ts := ts) (ty := ty) (mx := false) g ha h).done
  simpa [resolve, harr, invoke, builtin] using this
 ·have := (runs_aminmax (P := P) (ts := ts) (ty := ty) (mx := true) g ha h).done
  simpa [resolve, harr, invoke, builtin] using this
 ·exact h.elim

theorem parts_eq {a : Act} (parts : Array (Nat × Operand)) : (parts.map fun (i, x) => (i, a.eval x)) = (parts.toList.map fun p => (p.1, a.eval p.2)).toArray := by
 apply Array.ext'
 simp

set_option maxHeartbeats 1000000 in
theorem aeff_sound {draw : Bool} {o : Oper} {a : Act} {s : List V} {id : Nat} (go : GOk P c) (hs : Slots w ro ρ a s) (g : Good c rows w ro ρ) (h : aeff P draw o.op id s rows k) : Done P c k w ro ρ ((execOp a.eval o).run P w) := by
 obtain ⟨dst, op, type, pos, after, guard⟩ := o
 simp only at h
 cases op <;> simp only [aeff] at h <;> simp only [execOp]
 case move x => exact ⟨_, rows, ro, ρ, h, g, hs.eval x, Ext.refl _ _ _⟩
 case assign x => exact ⟨_, rows, ro, ρ, h, g, hs.eval x, Ext.refl _ _ _⟩
 case pick q x y =>
  have hq := hs.eval q
  cases hqv : oval s q with
  | bool t =>
   rw [hqv] at hq h
   have hqe := rd_bool hq
   cases t with
   | true =>
    simp at h
    have : (do pure (.value (if ← asBool (a.eval q) then a.eval x else a.eval y)) : Sem Next).run P w = .ok (.value (a.eval x)) w := by simp [hqe, asBool]
    rw [this]
    exact ⟨_, rows, ro, ρ, h, g, hs.eval x, Ext.refl _ _ _⟩
   | false =>
    simp at h
    have : (do pure (.value (if ← asBool (a.eval q) then a.eval x else a.eval y)) : Sem Next).run P w = .ok (.value (a.eval y)) w := by simp [hqe, asBool]
    rw [this]
    exact ⟨_, rows, ro, ρ, h, g, hs.eval y, Ext.refl _ _ _⟩
  | _ => rw [hqv] at h; exact h.elim
 case alloc e => obtain ⟨z, hz, hf, hk⟩ := h; exact (runs_aalloc g hz hf hk).done
 case box e v => exact (runs_abox g (hs.eval v) h).done
 case build t parts =>
  rw [parts_eq]
  exact (runs_abuild g (fun p _ => hs.eval p.2) h).done
 case buildSlice t n parts =>
  rw [parts_eq]
  exact (runs_abuildSlice g (fun p _ => hs.eval p.2) h).done
 case load t x => exact (runs_aload g (hs.eval x) h).done
 case store t x v => exact (runs_astore g (hs.eval x) (hs.eval v) h).done
 case nilCheck x =>
  have hx := hs.eval x
  generalize a.eval x = u at hx ⊢
  cases hxv : oval s x with
  | ref id off =>
   rw [hxv] at hx h
   have hx' := hx
   cases hx with
   | ref => simp only [Sem.run_pure, Done]; exact ⟨_, rows, ro, ρ, h, g, hx', Ext.refl _ _ _⟩
  | rptr cs =>
   rw [hxv] at hx h
   have hx' := hx
   obtain ⟨b, o, e, -, -⟩ := rd_rptr hx
   rw [e] at hx' ⊢
   simp only [Sem.run_pure, Done]
   exact ⟨_, rows, ro, ρ, h, g, hx', Ext.refl _ _ _⟩
  | fn f cap =>
   rw [hxv] at hx h
   cases f with
   | func f =>
    have hx' := hx
    cases hx with
    | fn => simp only [Sem.run_pure, Done]; exact ⟨_, rows, ro, ρ, h, g, hx', Ext.refl _ _ _⟩
   | _ => exact h.elim
  | _ => rw [hxv] at h; exact h.elim
 case binOp op xt x y yt => exact (runs_abin g (hs.eval x) (hs.eval y) h).done
 case unOp op t x => exact (runs_aun g (hs.eval x) h).done
 case convert sr d x => exact (runs_aconv g (hs.eval x) h).done
 case makeFunc fn first cap =>
  obtain ⟨rfl, h⟩ := h
  refine ⟨_, rows, ro, ρ, h, g, .fn (by simp) (by simp) fun i u x hu hx => ?_, Ext.refl _ _ _⟩
  have := rds_map hs cap.toList
  exact this.2 i u x (by simpa using hu) hx
 case makeInterface t x =>
  obtain ⟨hi, h⟩ := h
  refine Runs.done (Runs.same g ?_ (.iface (hs.eval x)) h)
  unfold uiface at hi
  split at hi
  ·simp at hi
  ·rename_i d hd hu
   simp only [Instr.makeInterface, Sem.run_bind, run_underlying hu, Result.andThen_ok]
   rfl
  ·simp at hi
 case makeSlice t l q => exact (runs_amakeSlice g (hs.eval l) (hs.eval q) h).done
 case slice t x lo hi mx => exact (runs_aslice g (hs.eval x) (ord_map hs lo) (ord_map hs hi) (ord_map hs mx) h).done
 case fieldAddr t x f => exact (runs_afieldAddr g (hs.eval x) h).done
 case field t x f => exact (runs_afield g (hs.eval x) h).done
 case indexAddr t x i => exact (runs_aindexAddr g (hs.eval x) (hs.eval i) h).done
 case index t x i => exact (runs_aindex g (hs.eval x) (hs.eval i) h).done
 case extract t i =>
  have ht := hs.eval t
  cases htv : oval s t with
  | tup vs =>
   rw [htv] at ht h
   obtain ⟨v, hv, hk⟩ := h
   obtain ⟨us, e, hus⟩ := rd_tup ht
   obtain ⟨u, hu, hr⟩ := hus.get hv
   have hu' : us[i]? = some u := by simpa using hu
   exact Runs.done (Runs.same g (by simp [e, Instr.extract, hu']) hr hk)
  | _ => rw [htv] at h; exact h.elim
 case call q =>
  obtain ⟨callee, args, ts⟩ := q
  cases callee with
  | builtin b => exact done_builtin hs g h
  | value f => exact done_call go hs g h
  | invoke r m => exact h.elim

end
end Go.VS
set_option linter.all false
namespace Go.VS

abbrev KS := List V → List Row → Prop

def Conc (c : Ctx) (s : List V) (rows : List Row) (a : Act) (w : World) : Prop := ∃ ro ρ, Good c rows w ro ρ ∧ Slots w ro ρ a s

def lift (c : Ctx) (Q : Exit → KS) (e : Exit) (a : Act) (w : World) : Prop := ∃ s rows, Q e s rows ∧ Conc c s rows a w

def AWp (P : Program) (n0 : Nat) (code : Code) (Q : Exit → KS) (s : List V) (rows : List Row) : Prop :=
 ∀ c a w, (c.ρ.length = n0 ∧ GOk P c) → Conc c s rows a w → code.wp P (lift c Q) a w

def athen (K : KS) (Q : Exit → KS) : Exit → KS
 | .normal => K
 | e => Q e

def ablock (id : Nat) (Q : Exit → KS) : Exit → KS
 | .exit j => if j = id then Q .normal else Q (.exit j)
 | e => Q e

section
variable {P : Program} {n0 : Nat} {Q : Exit → KS} {s : List V} {rows : List Row}

theorem awp_mono {code : Code} {Q' : Exit → KS} (h : AWp P n0 code Q s rows) (hq : ∀ e s rows, Q e s rows → Q' e s rows) : AWp P n0 code Q' s rows :=
 fun c a w hn hc => wp_mono (h c a w hn hc) fun e a w ⟨s, rows, hQ, hc⟩ => ⟨s, rows, hq e s rows hQ, hc⟩

theorem awp_skip (h : Q .normal s rows) : AWp P n0 .skip Q s rows := fun c a w _ hc => wp_skip ⟨s, rows, h, hc⟩
theorem awp_label {l : Nat} (h : Q .normal s rows) : AWp P n0 (.label l) Q s rows := fun c a w _ hc => wp_label ⟨s, rows, h, hc⟩
theorem awp_exit {id : Nat} (h : Q (.exit id) s rows) : AWp P n0 (.exit id) Q s rows := fun c a w _ hc => wp_exit ⟨s, rows, h, hc⟩
theorem awp_ret (h : Q .ret s rows) : AWp P n0 .ret Q s rows := fun c a w _ hc => wp_ret ⟨s, rows, h, hc⟩

theorem awp_seq {x y : Code} (h : ∀ K : KS, (∀ s rows, AWp P n0 y Q s rows → K s rows) → AWp P n0 x (athen K Q) s rows) : AWp P n0 (.seq x y) Q s rows := by
 intro c a w hn hc
 refine wp_seq (wp_mono (h (AWp P n0 y Q) (fun _ _ h => h) c a w hn hc) ?_)
 rintro e a' w' ⟨s', rows', hQ, hc'⟩
 cases e with
 | normal => exact hQ c a' w' hn hc'
 | exit id => exact ⟨s', rows', hQ, hc'⟩
 | goto l => exact ⟨s', rows', hQ, hc'⟩
 | ret => exact ⟨s', rows', hQ, hc'⟩
 | panic ch => exact ⟨s', rows', hQ, hc'⟩
 | outgrown => exact ⟨s', rows', hQ, hc'⟩

theorem awp_cond {x : Operand} {y z : Code} {t : Bool} (hx : oval s x = .bool t) (ht : t = true → AWp P n0 y Q s rows) (hf : t = false → AWp P n0 z Q s rows) : AWp P n0 (.cond x y z) Q s rows := by
 intro c a w hn hc
 obtain ⟨ro, ρ, g, hs⟩ := hc
 have he := hs.eval x
 rw [hx] at he
 exact wp_cond_split (rd_bool he) (fun h => ht h c a w hn ⟨ro, ρ, g, hs⟩) (fun h => hf h c a w hn ⟨ro, ρ, g, hs⟩)

theorem awp_block {id : Nat} {x : Code} (h : AWp P n0 x (ablock id Q) s rows) : AWp P n0 (.block id x) Q s rows := by
 intro c a w hn hc
 refine wp_block (wp_mono (h c a w hn hc) ?_)
 rintro e a' w' ⟨s', rows', hQ, hc'⟩
 cases e with
 | exit j =>
  simp only [ablock] at hQ
  simp only [Exit.inBlock]
  split
  ·rename_i h; rw [if_pos h] at hQ; exact ⟨s', rows', hQ, hc'⟩
  ·rename_i h; rw [if_neg h] at hQ; exact ⟨s', rows', hQ, hc'⟩
 | normal => exact ⟨s', rows', hQ, hc'⟩
 | goto l => exact ⟨s', rows', hQ, hc'⟩
 | ret => exact ⟨s', rows', hQ, hc'⟩
 | panic ch => exact ⟨s', rows', hQ, hc'⟩
 | outgrown => exact ⟨s', rows', hQ, hc'⟩


def Le (n0 : Nat) (s : List V) (rows : List Row) (s' : List V) (rows' : List Row) : Prop :=
 ∃ m : List (Option Nat), Rens false m s' s ∧ RowsRen m rows' rows ∧ ∀ j, j < n0 → m[j]? = some (some j)

theorem Good.le {c : Ctx} {w : World} {ro : Nat → Prop} {ρ : Rho} {rows' : List Row} {m : List (Option Nat)} (g : Good c rows w ro ρ) (hm : RowsRen m rows' rows) (hn : ∀ j, j < c.ρ.length → m[j]? = some (some j)) :
  Good c rows' w ro (rhoRen m rows' ρ) := by
 obtain ⟨f1, f2⟩ := hm.fwd g
 refine g.ren hm g.os g.tape g.output g.size g.old g.roNew (fun j x hj => ?_) ⟨g.ext.keep, g.ext.heap, fun id y hy hr => ?_⟩
 ·obtain ⟨i, h1, h2⟩ := rhoRen_on hj
  exact (g.ownNew i x h2).1
 ·obtain ⟨y1, hy1, hc1⟩ := g.ext.own id y hy hr
  have hn1 : y1 ≠ .resv := by rcases hc1 with rfl | rfl <;> first | exact hr | exact (fun h => by cases h)
  obtain ⟨y2, hy2, hc2⟩ := f1 id id y1 (hn id (List.getElem?_eq_some_iff.1 hy).1) hy1 hn1
  refine ⟨y2, hy2, ?_⟩
  rcases hc2 with rfl | rfl
  ·exact .inl rfl
  ·exact hc1

theorem Conc.le {c : Ctx} {a : Act} {w : World} {s' : List V} {rows' : List Row} (h : Conc c s rows a w) (hl : Le c.ρ.length s rows s' rows') : Conc c s' rows' a w := by
 obtain ⟨ro, ρ, g, hs⟩ := h
 obtain ⟨m, h1, h2, h3⟩ := hl
 obtain ⟨f1, f2⟩ := h2.fwd g
 exact ⟨ro, rhoRen m rows' ρ, g.le h2 h3, ⟨h1.rds f1 f2 hs.rds, hs.nodefer⟩⟩

theorem awp_le {code : Code} {s' : List V} {rows' : List Row} (hl : Le n0 s rows s' rows') (h : AWp P n0 code Q s' rows') : AWp P n0 code Q s rows := by
 intro c a w hn hc
 obtain ⟨rfl, go⟩ := hn
 exact h c a w ⟨rfl, go⟩ (hc.le hl)

theorem least_nat {p : Nat → Prop} (h : ∃ n, p n) : ∃ n, p n ∧ ∀ m, p m → n ≤ m := by
 obtain ⟨n, hn⟩ := h
 induction n using Nat.strongRecOn with
 | _ n ih =>
  by_cases hm : ∃ m, m < n ∧ p m
  ·obtain ⟨m, h1, h2⟩ := hm
   exact ih m h1 h2
  ·exact ⟨n, hn, fun m hp => Nat.le_of_not_lt fun hlt => hm ⟨m, hlt, hp⟩⟩

open Classical in
noncomputable def leastOf (p : Nat → Prop) : Nat := if h : ∃ n, p n then Classical.choose (least_nat h) else 0

theorem leastOf_spec {p : Nat → Prop} (h : ∃ n, p n) : p (leastOf p) ∧ ∀ m, p m → leastOf p ≤ m := by
 unfold leastOf
 rw [dif_pos h]
 exact Classical.choose_spec (least_nat h)

theorem awp_loop {α : Type} (I : α → List V × List Row) (μ : α → Nat) (x0 : α) {code : Code} (h0 : Le n0 s rows (I x0).1 (I x0).2)
  (round : ∀ x, AWp P n0 code (athen (fun s' rows' => ∃ x', μ x' < μ x ∧ Le n0 s' rows' (I x').1 (I x').2) Q) (I x).1 (I x).2) : AWp P n0 (.loop code) Q s rows := by
 intro c a w hn hc
 obtain ⟨rfl, go⟩ := hn
 refine wp_loop (Q := lift c Q) (fun a w => ∃ n x, μ x = n ∧ Conc c (I x).1 (I x).2 a w) (fun a w => leastOf fun n => ∃ x, μ x = n ∧ Conc c (I x).1 (I x).2 a w) ⟨_, x0, rfl, hc.le h0⟩ ?_
 intro a w hI
 obtain ⟨⟨x, hx, hcx⟩, -⟩ := leastOf_spec hI
 refine wp_mono (round x c a w ⟨rfl, go⟩ hcx) ?_
 rintro e a' w' ⟨s', rows', hQ, hc'⟩
 cases e with
 | normal =>
  obtain ⟨x', hlt, hle⟩ := hQ
  have hI' : ∃ n x, μ x = n ∧ Conc c (I x).1 (I x).2 a' w' := ⟨_, x', rfl, hc'.le hle⟩
  refine ⟨hI', ?_⟩
  have := (leastOf_spec hI').2 (μ x') ⟨x', rfl, hc'.le hle⟩
  omega
 | exit id => exact ⟨s', rows', hQ, hc'⟩
 | goto l => exact ⟨s', rows', hQ, hc'⟩
 | ret => exact ⟨s', rows', hQ, hc'⟩
 | panic ch => exact ⟨s', rows', hQ, hc'⟩
 | outgrown => exact ⟨s', rows', hQ, hc'⟩


def aguard (ops : Array Oper) (g : Option (Nat × Bool)) (s : List V) (yes no : Prop) : Prop :=
 match g with
 | none => yes
 | some (j, want) => match (ops[j]?).bind (·.dst) with
  | some d => (match sget s d with
   | .bool b => if b = want then yes else no
   | _ => False)
  | none => False

def arun (P : Program) (ops : Array Oper) : List Oper → List V → List Row → KS → Prop
 | [], s, rows, K => K s rows
 | o :: os, s, rows, K => aguard ops o.guard s (aeff P false o.op rows.length s rows fun v rows' => arun P ops os (sput s o.dst v) rows' K) (arun P ops os (sput s o.dst .junk) rows K)

theorem wanted_of {c : Ctx} {w : World} {ro : Nat → Prop} {ρ : Rho} {a : Act} {ops : Array Oper} {o : Oper} {yes no : Prop} (hs : Slots w ro ρ a s) (h : aguard ops o.guard s yes no) :
  (Region.wanted o (yielded ops a.tmps) = true ∧ yes) ∨ (Region.wanted o (yielded ops a.tmps) = false ∧ no) := by
 unfold aguard at h
 split at h
 ·rename_i hg; exact .inl ⟨by simp [Region.wanted, hg], h⟩
 ·rename_i j want hg
  split at h
  ·rename_i d hd
   split at h
   ·rename_i b hb
    have hlt : d < s.length := by
     rcases Nat.lt_or_ge d s.length with h | h
     ·exact h
     ·rw [sget_eq, List.getElem?_eq_none h] at hb; simp at hb
    have hsd : s[d]? = some (.bool b) := by
     rw [sget_eq] at hb
     obtain ⟨x, hx⟩ := get_iff hlt
     rw [hx] at hb ⊢
     simpa using hb
    obtain ⟨u, hu, hr⟩ := hs.rds.get hsd
    obtain rfl := rd_bool hr
    have hy : yielded ops a.tmps j = some b := by
     unfold yielded
     rw [hd]
     have : a.tmps[d]? = some (.bool b) := by simpa using hu
     simp [this]
    have hw : Region.wanted o (yielded ops a.tmps) = (some b == some want) := by simp [Region.wanted, hg, hy]
    split at h
    ·rename_i e; subst e; exact .inl ⟨by rw [hw]; simp, h⟩
    ·rename_i e; exact .inr ⟨by rw [hw]; simpa using e, h⟩
   ·exact h.elim
  ·exact h.elim

theorem oper_wp {c : Ctx} {w : World} {ro : Nat → Prop} {ρ : Rho} {a : Act} {o : Oper} {draw : Bool} {id : Nat} {next : Act → World → Prop} {Q' : Exit → Act → World → Prop} {k : KV} (go : GOk P c) (hs : Slots w ro ρ a s) (g : Good c rows w ro ρ)
  (h : aeff P draw o.op id s rows k) (hn : ∀ v w' r rows' ro' ρ', k r rows' → Good c rows' w' ro' ρ' → Slots w' ro' ρ' (a.put o.dst v) (sput s o.dst r) → next (a.put o.dst v) w') : o.wp P a w next Q' := by
 have hd := aeff_sound (o := o) go hs g h
 have use : ∀ v w', OpOk c k w ro ρ v w' → next (a.put o.dst v) w' := by
  rintro v w' ⟨r, rows', ro', ρ', h1, h2, h3, h4⟩
  exact hn v w' r rows' ro' ρ' h1 h2 ((hs.ext h4).put h3 o.dst)
 unfold Oper.wp
 generalize (execOp a.eval o).run P w = res at hd
 cases res with
 | halt x w' => exact hd.elim
 | ok n w' =>
  cases n <;> try exact hd.elim
  case value v => exact use v w' hd
  case skip => exact use undef w' hd
  case enter f args =>
   refine Calls.mono hd ?_
   rintro e w'' ⟨v, rfl, hok⟩
   exact use v w'' hok

theorem arun_sound {ops : Array Oper} {K : KS} : ∀ (is : List Nat) (os : List Oper), is.length = os.length → (∀ (t : Nat) i o, is[t]? = some i → os[t]? = some o → ops[i]? = some o) → ∀ (s : List V) (rows : List Row) (c : Ctx) (a : Act) (w : World), GOk P c →
  arun P ops os s rows K → Conc c s rows a w → wpOps P ops (lift c (athen K Q)) is a w
 | [], [], _, _, s, rows, c, a, w, _, h, hc => ⟨s, rows, h, hc⟩
 | [], _ :: _, hl, _, _, _, _, _, _, _, _, _ => by simp at hl
 | _ :: _, [], hl, _, _, _, _, _, _, _, _, _ => by simp at hl
 | i :: is, o :: os, hl, ho, s, rows, c, a, w, go, h, hc => by
  obtain ⟨ro, ρ, g, hs⟩ := hc
  have hio : ops[i]? = some o := ho 0 i o rfl rfl
  have ih := fun s rows a w (h : arun P ops os s rows K) hc => arun_sound is os (by simpa using hl) (fun t i o h1 h2 => ho (t + 1) i o (by simpa using h1) (by simpa using h2)) s rows c a w go h hc
  rw [wpOps_cons]
  unfold wpOp
  simp only [hio]
  simp only [arun] at h
  rcases wanted_of (c := c) hs h with ⟨hw, h⟩ | ⟨hw, h⟩
  ·rw [if_pos hw]
   refine .inl (oper_wp (c := c) go hs g h ?_)
   intro v w' r rows' ro' ρ' h1 h2 h3
   exact ih _ _ _ _ h1 ⟨ro', ρ', h2, h3⟩
  ·rw [if_neg (by simp [hw])]
   exact ih _ _ _ _ h ⟨ro, ρ, g, hs.put .junk o.dst⟩

theorem awp_region {id : Nat} {ops : Array Oper} (h : arun P ops ops.toList s rows (Q .normal)) : AWp P n0 (.region id ops false) Q s rows := by
 intro c a w hn hc
 have := arun_sound (P := P) (Q := Q) (K := Q .normal) (List.range ops.size) ops.toList (by simp) (fun t i o h1 h2 => by
  have hlt := (List.getElem?_eq_some_iff.1 h1).1
  simp at hlt
  rw [List.getElem?_range hlt] at h1
  simp at h1
  subst h1
  simpa using h2) s rows c a w hn.2 h hc
 refine wp_mono (wp_region this) ?_
 rintro e a' w' ⟨s', rows', hQ, hc'⟩
 cases e <;> exact ⟨s', rows', hQ, hc'⟩


def ares1 (P : Program) (s : List V) (rows : List Row) : ResultVar → (V → Prop) → Prop
 | .tmp t, k => k (sget s t)
 | .cell a t, k => aload P t (sget s a) rows fun v _ => k v

def aresL (P : Program) (s : List V) (rows : List Row) : List ResultVar → (List V → Prop) → Prop
 | [], k => k []
 | r :: rs, k => ares1 P s rows r fun v => aresL P s rows rs fun vs => k (v :: vs)

def ares (P : Program) (s : List V) (rows : List Row) (rs : List ResultVar) (k : V → Prop) : Prop :=
 aresL P s rows rs fun vs => match vs with
  | [v] => k v
  | vs => k (.tup vs)

def resOf (a : Act) : ResultVar → Sem Value
 | .tmp t => pure (a.tmps.getD t undef)
 | .cell a' t => do loadVar t (← asAddr (a.tmps.getD a' undef))

theorem run_ares1 {c : Ctx} {w : World} {ro : Nat → Prop} {ρ : Rho} {a : Act} (g : Good c rows w ro ρ) (hs : Slots w ro ρ a s) {r : ResultVar} {k : V → Prop} (h : ares1 P s rows r k) :
  ∃ u v, (resOf a r).run P w = .ok u w ∧ Rd w ro ρ u v ∧ k v := by
 cases r with
 | tmp t => exact ⟨_, _, rfl, hs.eval (.tmp t), h⟩
 | cell a' t =>
  have hx := hs.eval (.tmp a')
  simp only [oval] at hx
  have hrun : ∀ b, (Instr.loadAt t (a.eval (.tmp a'))).run P w = .ok b w → (do loadVar t (← asAddr (a.tmps.getD a' undef)) : Sem Value).run P w = .ok b w := by
   intro b hb
   show (do loadVar t (← asAddr (a.eval (.tmp a'))) : Sem Value).run P w = .ok b w
   cases he : a.eval (.tmp a') with
   | pointer p =>
    cases p with
    | some p => rw [he] at hb; simpa [Instr.loadAt, Instr.sureAddr, asAddr] using hb
    | none => rw [he] at hb; simp [Instr.loadAt, Instr.sureAddr] at hb
   | _ => rw [he] at hb; simp [Instr.loadAt, Instr.sureAddr] at hb
  simp only [ares1] at h
  have key : ∃ u v, (Instr.loadAt t (a.eval (.tmp a'))).run P w = .ok u w ∧ Rd w ro ρ u v ∧ k v := by
   have cells : ∀ {b o off : Nat} {cs : List V}, CellsAt w ro ρ b o cs → acells P t cs off k → ∃ u v, (loadVar t ⟨b, o + off, none⟩).run P w = .ok u w ∧ Rd w ro ρ u v ∧ k v := by
    intro b o off cs hc h
    unfold acells at h
    split at h
    ·rename_i ha
     obtain ⟨n, hn, hle, hk⟩ := h
     obtain ⟨us, hl, hus⟩ := run_loadCells_at (P := P) ((hc.drop off).take n)
     have hlen : ((cs.drop off).take n).length = n := by simp; omega
     rw [hlen] at hl
     exact ⟨.agg us.toArray, _, by simp [loadVar, run_isAgg' ha, run_size hn, hl], Rds.agg (by simpa using hus), hk⟩
    ·rename_i ha
     obtain ⟨v, hv, hk⟩ := h
     obtain ⟨u, hu, hr⟩ := hc off v hv
     exact ⟨u, v, by simp [loadVar, run_isAgg' ha, hu], hr, hk⟩
    ·exact h.elim
   generalize sget s a' = x at h hx
   cases x with
   | ref id off =>
    obtain ⟨cs, hl, hne, h⟩ := h
    obtain ⟨x, hx', hat, e⟩ := rd_ref g hx hl
    rw [e]
    obtain ⟨u, v, q1, q2⟩ := cells hat.cellsAt h
    exact ⟨u, v, by simpa [Instr.loadAt, Instr.sureAddr] using q1, q2⟩
   | rptr cs =>
    obtain ⟨b, o, e, hro, hat⟩ := rd_rptr hx
    rw [e]
    obtain ⟨u, v, q1, q2⟩ := cells (b := b) (o := o) (off := 0) (fun i v hv => by obtain ⟨u, hu, hr⟩ := hat i v hv; exact ⟨u, hu, hr.ofNil⟩) h
    exact ⟨u, v, by simpa [Instr.loadAt, Instr.sureAddr] using q1, q2⟩
   | _ => exact False.elim h
  obtain ⟨u, v, q1, q2⟩ := key
  exact ⟨u, v, hrun u q1, q2⟩

theorem run_aresL {c : Ctx} {w : World} {ro : Nat → Prop} {ρ : Rho} {a : Act} (g : Good c rows w ro ρ) (hs : Slots w ro ρ a s) : ∀ {rs : List ResultVar} {k : List V → Prop}, aresL P s rows rs k →
  ∃ us vs, (rs.mapM (resOf a)).run P w = .ok us w ∧ Rds w ro ρ us vs ∧ k vs
 | [], k, h => ⟨[], [], rfl, ⟨rfl, fun i u x h => by simp at h⟩, h⟩
 | r :: rs, k, h => by
  obtain ⟨u, v, h1, h2, h3⟩ := run_ares1 g hs h
  obtain ⟨us, vs, q1, q2, q3⟩ := run_aresL g hs h3
  refine ⟨u :: us, v :: vs, ?_, ⟨by simp [q2.1], fun i b x hb hx => ?_⟩, q3⟩
  ·rw [List.mapM_cons]
   simp only [Sem.run_bind]
   rw [h1]
   simp only [Result.andThen_ok, Sem.run_bind]
   rw [q1]
   rfl
  ·cases i with
   | zero => simp at hb hx; subst hb; subst hx; exact h2
   | succ i => exact q2.2 i b x (by simpa using hb) (by simpa using hx)

theorem run_ares {c : Ctx} {w : World} {ro : Nat → Prop} {ρ : Rho} {a : Act} {fn : Func} (g : Good c rows w ro ρ) (hs : Slots w ro ρ a s) {k : V → Prop} (h : ares P s rows fn.results.toList k) :
  ∃ u v, (results fn a.tmps).run P w = .ok u w ∧ Rd w ro ρ u v ∧ k v := by
 obtain ⟨us, vs, h1, h2, h3⟩ := run_aresL g hs h
 have hm : (fn.results.mapM (resOf a)).run P w = .ok us.toArray w := by
  rw [Array.mapM_eq_mapM_toList]
  simp only [Sem.run_map, h1, Result.andThen_ok]
 have hres : (results fn a.tmps).run P w = .ok (if h : us.toArray.size = 1 then us.toArray[0] else .tuple us.toArray) w := by
  show (do let vs ← fn.results.mapM (resOf a); pure (if h : vs.size = 1 then vs[0] else .tuple vs) : Sem Value).run P w = _
  simp only [Sem.run_bind]
  rw [hm]
  rfl
 match us, vs, h2, h3, hres with
 | [u], [v], h2, h3, hres => exact ⟨u, v, by simpa using hres, h2.2 0 u v rfl rfl, h3⟩
 | [], [], h2, h3, hres => exact ⟨_, _, hres, Rds.tup (by simpa using h2), h3⟩
 | u :: u' :: us, v :: v' :: vs, h2, h3, hres => exact ⟨_, _, by simpa using hres, Rds.tup (by simpa using h2), h3⟩
 | [], _ :: _, h2, _, _ => simp [Rds] at h2
 | [_], [], h2, _, _ => simp [Rds] at h2
 | [_], _ :: _ :: _, h2, _, _ => simp [Rds] at h2
 | _ :: _ :: _, [], h2, _, _ => simp [Rds] at h2
 | _ :: _ :: _, [_], h2, _, _ => simp [Rds] at h2

def aend (P : Program) (rs : List ResultVar) (R : V → List Row → Prop) : Exit → KS
 | .normal, s, rows | .ret, s, rows => ares P s rows rs fun r => R r rows
 | _, _, _ => False

theorem acalls_body {f : FuncId} {fn : Func} {code : Code} {args : List V} {R : V → List Row → Prop} (hf : P.funcs[f]? = some fn) (hb : fn.body = some code) (he : Enters P f)
  (h : AWp P rows.length code (aend P fn.results.toList R) (args ++ List.replicate (fn.ntmps - args.length) .junk) rows) : ACalls P f args rows R := by
 refine ⟨he, fun w ro ρ vs g go ha => ?_⟩
 have hsz : vs.size = args.length := by simpa using ha.1
 have hslots : Slots w ro ρ { tmps := vs ++ Array.replicate (fn.ntmps - vs.size) undef, defers := [] } (args ++ List.replicate (fn.ntmps - args.length) .junk) := by
  refine ⟨?_, rfl⟩
  show Rds w ro ρ (vs ++ Array.replicate (fn.ntmps - vs.size) undef).toList _
  rw [Array.toList_append, Array.toList_replicate, hsz]
  exact ha.append ⟨by simp, fun i u x hu hx => by
   rw [List.getElem?_replicate] at hx
   split at hx
   ·simp at hx; subst hx; exact .junk
   ·simp at hx⟩
 refine calls_of_wp hf hb (wp_mono (h ⟨w, ro, ρ⟩ _ w ⟨g.len, go⟩ ⟨ro, ρ, g, hslots⟩) ?_)
 rintro e a' w' ⟨s', rows', hQ, ro', ρ', g', hs'⟩
 cases e with
 | normal =>
  obtain ⟨u, v, h1, h2, h3⟩ := run_ares g' hs' hQ
  exact ⟨hs'.nodefer, u, h1, u, v, rows', ro', ρ', rfl, h3, g', h2⟩
 | ret =>
  obtain ⟨u, v, h1, h2, h3⟩ := run_ares g' hs' hQ
  exact ⟨hs'.nodefer, u, h1, u, v, rows', ro', ρ', rfl, h3, g', h2⟩
 | exit id => exact hQ.elim
 | goto l => exact hQ.elim
 | panic ch => exact hQ.elim
 | outgrown => exact hQ.elim

theorem PCall.view {f : FuncId} {args : List V} {r : V} (hp : r.Pure) (h : ACalls P f args [] fun r' rows' => View rows' r' r) : PCall P f args r := by
 refine ⟨hp, h.1, fun w ro ρ vs g go ha => (h.2 w ro ρ vs g go ha).mono ?_⟩
 rintro e w' ⟨v, r', rows', ro', ρ', rfl, hv, g', hr⟩
 have hρ : ρ = [] := List.eq_nil_of_length_eq_zero g.len
 subst hρ
 refine ⟨v, r, [], roAll ro' ρ', [], rfl, rfl, ?_, hv.rd g' hr []⟩
 have hext : Ext w' ro' ρ' w' (roAll ro' ρ') ρ' := ⟨fun _ h => .inl h, fun _ _ => rfl, fun id y h _ => ⟨y, h, .inr rfl⟩⟩
 have he := g'.ext.trans hext
 refine ⟨g'.os, g'.tape, g'.output, g'.size, g'.old, fun b hb => ?_, fun b hb => ?_, rfl, fun id x h => by simp at h, fun i j x y h => by simp at h, fun id r h => by simp at h, ⟨he.keep, he.heap, fun id y h => by simp at h⟩⟩
 ·rcases hb with hb | ⟨id, x, h, rfl⟩
  ·exact g'.roLt b hb
  ·exact g'.ownLt h
 ·rcases hb with hb | ⟨id, x, h, rfl⟩
  ·exact g'.roNew b hb
  ·exact .inr (g'.ownNew id x h).1

theorem pcall_body {f : FuncId} {fn : Func} {code : Code} {args : List V} {r : V} (hf : P.funcs[f]? = some fn) (hb : fn.body = some code) (he : Enters P f) (hp : r.Pure)
  (h : AWp P 0 code (aend P fn.results.toList fun r' rows' => View rows' r' r) (args ++ List.replicate (fn.ntmps - args.length) .junk) []) : PCall P f args r :=
 .view hp (acalls_body hf hb he h)

end
end Go.VS
set_option linter.all false
namespace Go.VS

attribute [simp] aeff oval ofConst ofCell sget sput sset athen ablock aend ares aresL ares1 abin aint astr aun apart acells aload astore abox aindexAddr aindex afieldAddr afield abuildSlice abuild aslice abound aconv alen abuiltin aappend acopy aminmax ashown amakeSlice lput Free rput sliceCells unguarded List.replicate
@[simp] theorem toByte_byteV (b : UInt8) : toByte (byteV b) = b := by simp [byteV, toByte]
@[simp] theorem isByte_byteV (b : UInt8) : (byteV b).isByte = true := rfl
@[simp] theorem one_byteV (b : UInt8) : (byteV b).one = true := rfl
@[simp] theorem one_bool {b : Bool} : (V.bool b).one = true := rfl
@[simp] theorem eqable_bool {b : Bool} : (V.bool b).eqable = true := rfl
@[simp] theorem isByte_bool {b : Bool} : (V.bool b).isByte = false := rfl
@[simp] theorem one_int {k : IntKind} {n : Int} : (V.int k n).one = true := rfl
@[simp] theorem eqable_int {k : IntKind} {n : Int} : (V.int k n).eqable = false := rfl
@[simp] theorem one_str {b : List UInt8} : (V.str b).one = true := rfl
@[simp] theorem eqable_str {b : List UInt8} : (V.str b).eqable = false := rfl
@[simp] theorem isByte_str {b : List UInt8} : (V.str b).isByte = false := rfl
@[simp] theorem one_nilp  : V.nilp.one = true := rfl
@[simp] theorem eqable_nilp  : V.nilp.eqable = true := rfl
@[simp] theorem isByte_nilp  : V.nilp.isByte = false := rfl
@[simp] theorem one_ref {i o : Nat} : (V.ref i o).one = true := rfl
@[simp] theorem eqable_ref {i o : Nat} : (V.ref i o).eqable = true := rfl
@[simp] theorem isByte_ref {i o : Nat} : (V.ref i o).isByte = false := rfl
@[simp] theorem one_rptr {c : List V} : (V.rptr c).one = true := rfl
@[simp] theorem eqable_rptr {c : List V} : (V.rptr c).eqable = true := rfl
@[simp] theorem isByte_rptr {c : List V} : (V.rptr c).isByte = false := rfl
@[simp] theorem one_nils  : V.nils.one = true := rfl
@[simp] theorem eqable_nils  : V.nils.eqable = true := rfl
@[simp] theorem isByte_nils  : V.nils.isByte = false := rfl
@[simp] theorem one_sl {n : Nat} {c : List V} : (V.sl n c).one = true := rfl
@[simp] theorem eqable_sl {n : Nat} {c : List V} : (V.sl n c).eqable = true := rfl
@[simp] theorem isByte_sl {n : Nat} {c : List V} : (V.sl n c).isByte = false := rfl
@[simp] theorem one_osl {i o n z : Nat} : (V.osl i o n z).one = true := rfl
@[simp] theorem eqable_osl {i o n z : Nat} : (V.osl i o n z).eqable = true := rfl
@[simp] theorem isByte_osl {i o n z : Nat} : (V.osl i o n z).isByte = false := rfl
@[simp] theorem one_fn {f : Fn} {c : List V} : (V.fn f c).one = true := rfl
@[simp] theorem eqable_fn {f : Fn} {c : List V} : (V.fn f c).eqable = true := rfl
@[simp] theorem isByte_fn {f : Fn} {c : List V} : (V.fn f c).isByte = false := rfl
@[simp] theorem one_nilf  : V.nilf.one = true := rfl
@[simp] theorem eqable_nilf  : V.nilf.eqable = true := rfl
@[simp] theorem isByte_nilf  : V.nilf.isByte = false := rfl
@[simp] theorem one_niface  : V.niface.one = true := rfl
@[simp] theorem eqable_niface  : V.niface.eqable = false := rfl
@[simp] theorem isByte_niface  : V.niface.isByte = false := rfl
@[simp] theorem one_iface {t : TypeId} {x : V} : (V.iface t x).one = true := rfl
@[simp] theorem eqable_iface {t : TypeId} {x : V} : (V.iface t x).eqable = true := rfl
@[simp] theorem isByte_iface {t : TypeId} {x : V} : (V.iface t x).isByte = false := rfl
@[simp] theorem one_agg {c : List V} : (V.agg c).one = false := rfl
@[simp] theorem eqable_agg {c : List V} : (V.agg c).eqable = true := rfl
@[simp] theorem isByte_agg {c : List V} : (V.agg c).isByte = false := rfl
@[simp] theorem one_junk  : V.junk.one = false := rfl
@[simp] theorem eqable_val {a : Option Addr} {n c : Nat} : (V.val (.slice a n c)).eqable = true := rfl
@[simp] theorem eqable_junk  : V.junk.eqable = false := rfl
@[simp] theorem isByte_junk  : V.junk.isByte = false := rfl
@[simp] theorem isByte_u8 {n : Int} : (V.int .u8 n).isByte = true := rfl
@[simp] theorem toByte_u8 {n : Int} : toByte (V.int .u8 n) = UInt8.ofNat n.toNat := rfl
@[simp] theorem vcells_byteV {b : UInt8} : vcells (byteV b) = some [byteV b] := rfl
@[simp] theorem vcells_agg {c : List V} : vcells (.agg c) = some c := rfl
@[simp] theorem vcells_bool {b : Bool} : vcells (V.bool b) = some [(V.bool b)] := rfl
@[simp] theorem vcells_int {k : IntKind} {n : Int} : vcells (V.int k n) = some [(V.int k n)] := rfl
@[simp] theorem vcells_str {b : List UInt8} : vcells (V.str b) = some [(V.str b)] := rfl
@[simp] theorem vcells_nilp  : vcells V.nilp = some [V.nilp] := rfl
@[simp] theorem vcells_ref {i o : Nat} : vcells (V.ref i o) = some [(V.ref i o)] := rfl
@[simp] theorem vcells_rptr {c : List V} : vcells (V.rptr c) = some [(V.rptr c)] := rfl
@[simp] theorem vcells_nils  : vcells V.nils = some [V.nils] := rfl
@[simp] theorem vcells_sl {n : Nat} {c : List V} : vcells (V.sl n c) = some [(V.sl n c)] := rfl
@[simp] theorem vcells_osl {i o n z : Nat} : vcells (V.osl i o n z) = some [(V.osl i o n z)] := rfl
@[simp] theorem vcells_fn {f : Fn} {c : List V} : vcells (V.fn f c) = some [(V.fn f c)] := rfl
@[simp] theorem vcells_nilf  : vcells V.nilf = some [V.nilf] := rfl
@[simp] theorem vcells_niface  : vcells V.niface = some [V.niface] := rfl
@[simp] theorem vcells_iface {t : TypeId} {x : V} : vcells (V.iface t x) = some [(V.iface t x)] := rfl
@[simp] theorem pure_byteV (b : UInt8) : (byteV b).Pure := .int

section
variable {ex : Bool} {m : List (Option Nat)}

@[simp] theorem ren_junk {y : V} : Ren false m .junk y := .junk rfl
@[simp] theorem ren_int {k : IntKind} {n : Int} {y : V} : Ren ex m (.int k n) y ↔ y = .int k n := ⟨fun h => by cases h; rfl, fun h => by subst h; exact .pure .int⟩
@[simp] theorem ren_bool {b : Bool} {y : V} : Ren ex m (.bool b) y ↔ y = .bool b := ⟨fun h => by cases h; rfl, fun h => by subst h; exact .pure .bool⟩
@[simp] theorem ren_str {b : List UInt8} {y : V} : Ren ex m (.str b) y ↔ y = .str b := ⟨fun h => by cases h; rfl, fun h => by subst h; exact .pure .str⟩
@[simp] theorem ren_nilp {y : V} : Ren ex m .nilp y ↔ y = .nilp := ⟨fun h => by cases h; rfl, fun h => by subst h; exact .pure .nilp⟩
@[simp] theorem ren_nils {y : V} : Ren ex m .nils y ↔ y = .nils := ⟨fun h => by cases h; rfl, fun h => by subst h; exact .pure .nils⟩
@[simp] theorem ren_nilf {y : V} : Ren ex m .nilf y ↔ y = .nilf := ⟨fun h => by cases h; rfl, fun h => by subst h; exact .pure .nilf⟩
@[simp] theorem ren_niface {y : V} : Ren ex m .niface y ↔ y = .niface := ⟨fun h => by cases h; rfl, fun h => by subst h; exact .pure .niface⟩
@[simp] theorem ren_sl {n : Nat} {c : List V} {y : V} : Ren ex m (.sl n c) y ↔ y = .sl n c := ⟨fun h => by cases h; rfl, fun h => by subst h; exact .pure .sl⟩
@[simp] theorem ren_rptr {c : List V} {y : V} : Ren ex m (.rptr c) y ↔ y = .rptr c := ⟨fun h => by cases h; rfl, fun h => by subst h; exact .pure .rptr⟩
@[simp] theorem ren_val {u : Value} {y : V} : Ren ex m (.val u) y ↔ y = .val u := ⟨fun h => by cases h; rfl, fun h => by subst h; exact .pure .val⟩
@[simp] theorem ren_ref {j i o p : Nat} : Ren ex m (.ref j o) (.ref i p) ↔ m[j]? = some (some i) ∧ p = o :=
 ⟨fun h => by cases h with | pure h => cases h | ref h => exact ⟨h, rfl⟩, fun h => by obtain ⟨h, rfl⟩ := h; exact .ref h⟩
@[simp] theorem ren_osl {j i o p n n' z z' : Nat} : Ren ex m (.osl j o n z) (.osl i p n' z') ↔ m[j]? = some (some i) ∧ p = o ∧ n' = n ∧ z' = z :=
 ⟨fun h => by cases h with | pure h => cases h | osl h => exact ⟨h, rfl, rfl, rfl⟩, fun h => by obtain ⟨h, rfl, rfl, rfl⟩ := h; exact .osl h⟩
@[simp] theorem ren_osl_nils {j o n z : Nat} : Ren false m (.osl j o n z) .nils ↔ m[j]? = some none ∧ n = 0 :=
 ⟨fun h => by cases h with | nil _ h => exact ⟨h, rfl⟩, fun h => by obtain ⟨h, rfl⟩ := h; exact .nil rfl h⟩
@[simp] theorem rens_nil : Rens ex m [] [] ↔ True := Iff.rfl
@[simp] theorem rens_cons {x y : V} {xs ys : List V} : Rens ex m (x :: xs) (y :: ys) ↔ Ren ex m x y ∧ Rens ex m xs ys := Iff.rfl

theorem rowsRen_drop (rows : List Row) : RowsRen [] [] rows := ⟨rfl, fun j j' i h => by simp at h, fun j i r h => by simp at h, fun j r h => by simp at h⟩

end

theorem Le.drop {s s' : List V} {rows : List Row} (h : Rens false [] s' s) : Le 0 s rows s' [] := ⟨[], h, rowsRen_drop rows, fun j h => by omega⟩

theorem Le.mk {n0 : Nat} {s s' : List V} {rows rows' : List Row} (m : List (Option Nat)) (h : Rens false m s' s) (hr : RowsRen m rows' rows) (hn : ∀ j, j < n0 → m[j]? = some (some j)) : Le n0 s rows s' rows' := ⟨m, h, hr, hn⟩

def rowsOver (M : List (Option Nat)) (rows : List Row) : List (Option Nat) → List Row → Prop
 | [], [] => True
 | none :: m, r' :: rs => r' = .live [] ∧ rowsOver M rows m rs
 | some i :: m, r' :: rs => (∃ r, rows[i]? = some r ∧ RowRen false M r' r) ∧ rowsOver M rows m rs
 | _, _ => False

theorem rowsOver_get {M : List (Option Nat)} {rows : List Row} : ∀ {m : List (Option Nat)} {rs : List Row}, rowsOver M rows m rs → rs.length = m.length ∧
  (∀ (j i : Nat) r', m[j]? = some (some i) → rs[j]? = some r' → ∃ r, rows[i]? = some r ∧ RowRen false M r' r) ∧ (∀ (j : Nat) r', m[j]? = some none → rs[j]? = some r' → r' = .live [])
 | [], [], _ => ⟨rfl, fun j i r h => by simp at h, fun j r h => by simp at h⟩
 | [], _ :: _, h => h.elim
 | none :: _, [], h => h.elim
 | some _ :: _, [], h => h.elim
 | none :: m, r' :: rs, h => by
  obtain ⟨h1, h2, h3⟩ := rowsOver_get h.2
  refine ⟨by simp [h1], fun j i r hj hr => ?_, fun j r hj hr => ?_⟩
  ·cases j with
   | zero => simp at hj
   | succ j => exact h2 j i r (by simpa using hj) (by simpa using hr)
  ·cases j with
   | zero => simp at hr; rw [← hr]; exact h.1
   | succ j => exact h3 j r (by simpa using hj) (by simpa using hr)
 | some i :: m, r' :: rs, h => by
  obtain ⟨h1, h2, h3⟩ := rowsOver_get h.2
  refine ⟨by simp [h1], fun j i r hj hr => ?_, fun j r hj hr => ?_⟩
  ·cases j with
   | zero => simp at hj hr; subst hj; subst hr; exact h.1
   | succ j => exact h2 j i r (by simpa using hj) (by simpa using hr)
  ·cases j with
   | zero => simp at hj
   | succ j => exact h3 j r (by simpa using hj) (by simpa using hr)

theorem inj_of_nodup {m : List (Option Nat)} (h : (m.filterMap id).Nodup) : ∀ (j j' i : Nat), m[j]? = some (some i) → m[j']? = some (some i) → j = j' := by
 induction m with
 | nil => intro j j' i h; simp at h
 | cons x m ih =>
  intro j j' i h1 h2
  have hm : (m.filterMap id).Nodup := by
   cases x with
   | none => simpa using h
   | some x => simp at h; exact h.2
  have mem : ∀ t : Nat, m[t]? = some (some i) → i ∈ m.filterMap id := fun t ht => List.mem_filterMap.2 ⟨some i, List.mem_of_getElem? ht, rfl⟩
  cases j with
  | zero =>
   cases j' with
   | zero => rfl
   | succ j' =>
    simp at h1 h2
    subst h1
    simp at h
    exact absurd h2 (fun h2 => by
     have := mem j' h2
     simp at this
     obtain ⟨⟩ := h
     simp_all)
  | succ j =>
   cases j' with
   | zero =>
    simp at h1 h2
    subst h2
    simp at h
    exact absurd h1 (fun h1 => by
     have := mem j h1
     simp at this
     simp_all)
   | succ j' =>
    have := ih hm j j' i (by simpa using h1) (by simpa using h2)
    omega

theorem rowsRen_of {m : List (Option Nat)} {rows rows' : List Row} (hn : (m.filterMap id).Nodup) (h : rowsOver m rows m rows') : RowsRen m rows' rows :=
 let ⟨h1, h2, h3⟩ := rowsOver_get h
 ⟨h1, inj_of_nodup hn, h2, h3⟩

end Go.VS
set_option linter.all false
namespace Go.VS

section
variable {P : Program}


theorem cont_aint {op : BinOp} {kd kd' : IntKind} {a b : Int} {k : V → Prop} (h : aint op kd a kd' b k) : ∃ v, k v ∧ ∀ k2 : V → Prop, k2 v → aint op kd a kd' b k2 := by
 cases op <;> simp only [aint] at h ⊢
 case quo => obtain ⟨h1, h2, h3⟩ := h; exact ⟨_, h3, fun k2 h => ⟨h1, h2, h⟩⟩
 case rem => obtain ⟨h1, h2, h3⟩ := h; exact ⟨_, h3, fun k2 h => ⟨h1, h2, h⟩⟩
 all_goals (obtain ⟨h1, h2⟩ := h; exact ⟨_, h2, fun k2 h => ⟨h1, h⟩⟩)

theorem cont_astr {op : BinOp} {a b : List UInt8} {k : V → Prop} (h : astr op a b k) : ∃ v, k v ∧ ∀ k2 : V → Prop, k2 v → astr op a b k2 := by
 cases op <;> simp only [astr] at h ⊢
 case add => obtain ⟨h1, h2⟩ := h; exact ⟨_, h2, fun k2 h => ⟨h1, h⟩⟩
 all_goals first | exact ⟨_, h, fun k2 h => h⟩ | exact h.elim

theorem cont_abin {op : BinOp} {xt : TypeId} {x y : V} {k : V → Prop} (h : abin P op xt x y k) : ∃ v, k v ∧ ∀ k2 : V → Prop, k2 v → abin P op xt x y k2 := by
 unfold abin at h ⊢
 split at h
 ·exact cont_aint h
 ·exact cont_astr h
 ·split at h
  ·obtain ⟨h1, h2, r, h3, h4⟩ := h; exact ⟨_, h4, fun k2 h => ⟨h1, h2, r, h3, h⟩⟩
  ·obtain ⟨h1, h2, r, h3, h4⟩ := h; exact ⟨_, h4, fun k2 h => ⟨h1, h2, r, h3, h⟩⟩
  ·exact h.elim

theorem cont_aun {op : UnOp} {x : V} {k : V → Prop} (h : aun op x k) : ∃ v, k v ∧ ∀ k2 : V → Prop, k2 v → aun op x k2 := by
 unfold aun at h ⊢
 split at h <;> first | exact ⟨_, h, fun k2 h => h⟩ | exact h.elim

theorem cont_apart {t : TypeId} {cs : List V} {off : Nat} {k : V → Prop} (h : apart P t cs off k) : ∃ v, k v ∧ ∀ k2 : V → Prop, k2 v → apart P t cs off k2 := by
 unfold apart at h ⊢
 split at h
 ·obtain ⟨n, h1, h2⟩ := h; exact ⟨_, h2, fun k2 h => ⟨n, h1, h⟩⟩
 ·obtain ⟨n, h1, h2⟩ := h; exact ⟨_, h2, fun k2 h => ⟨n, h1, h⟩⟩
 ·exact h.elim

theorem cont_acells {t : TypeId} {cs : List V} {off : Nat} {k : V → Prop} (h : acells P t cs off k) : ∃ v, k v ∧ ∀ k2 : V → Prop, k2 v → acells P t cs off k2 := by
 unfold acells at h ⊢
 split at h
 ·obtain ⟨n, h1, h2, h3⟩ := h; exact ⟨_, h3, fun k2 h => ⟨n, h1, h2, h⟩⟩
 ·obtain ⟨n, h1, h2⟩ := h; exact ⟨_, h2, fun k2 h => ⟨n, h1, h⟩⟩
 ·exact h.elim

theorem cont_afield {t : TypeId} {x : V} {f : Nat} {k : V → Prop} (h : afield P t x f k) : ∃ v, k v ∧ ∀ k2 : V → Prop, k2 v → afield P t x f k2 := by
 unfold afield at h ⊢
 split at h
 ·obtain ⟨ft, o, h1, h2⟩ := h
  obtain ⟨v, h3, h4⟩ := cont_apart h2
  exact ⟨v, h3, fun k2 h => ⟨ft, o, h1, h4 k2 h⟩⟩
 ·exact h.elim

theorem cont_aindex {t : TypeId} {x ix : V} {k : V → Prop} (h : aindex P t x ix k) : ∃ v, k v ∧ ∀ k2 : V → Prop, k2 v → aindex P t x ix k2 := by
 unfold aindex at h ⊢
 split at h
 ·split at h
  ·obtain ⟨n, e, sz, h1, h2, h3, h4, h5⟩ := h
   obtain ⟨v, h6, h7⟩ := cont_apart h5
   exact ⟨v, h6, fun k2 h => ⟨n, e, sz, h1, h2, h3, h4, h7 k2 h⟩⟩
  ·obtain ⟨h1, h2, b, h3, h4⟩ := h
   exact ⟨_, h4, fun k2 h => ⟨h1, h2, b, h3, h⟩⟩
  ·exact h.elim
 ·exact h.elim

theorem cont_alen {t : TypeId} {x : V} {k : V → Prop} (h : alen P t x k) : ∃ v, k v ∧ ∀ k2 : V → Prop, k2 v → alen P t x k2 := by
 unfold alen at h ⊢
 split at h
 ·exact ⟨_, h.2, fun k2 h' => ⟨h.1, h'⟩⟩
 ·exact ⟨_, h.2, fun k2 h' => ⟨h.1, h'⟩⟩
 ·exact ⟨_, h.2, fun k2 h' => ⟨h.1, h'⟩⟩
 ·exact ⟨_, h.2, fun k2 h' => ⟨h.1, h'⟩⟩
 ·obtain ⟨n, e, h1, h2⟩ := h; exact ⟨_, h2, fun k2 h => ⟨n, e, h1, h⟩⟩

theorem cont_aminmax {mx : Bool} {xs : List V} {k : V → Prop} (h : aminmax mx xs k) : ∃ v, k v ∧ ∀ k2 : V → Prop, k2 v → aminmax mx xs k2 := by
 unfold aminmax at h ⊢
 split at h
 ·exact ⟨_, h.2, fun k2 h' => ⟨h.1, h'⟩⟩
 ·exact ⟨_, h.2.2, fun k2 h' => ⟨h.1, h.2.1, h'⟩⟩
 ·exact h.elim

theorem cont_afill {place : Nat → Option (Nat × Nat)} {ρ : Operand → V} : ∀ {parts : List (Nat × Operand)} {cs : List V} {k : List V → Prop}, afill place ρ parts cs k → ∃ ds, k ds ∧ ∀ k2 : List V → Prop, k2 ds → afill place ρ parts cs k2
 | [], cs, k, h => ⟨cs, h, fun k2 h => h⟩
 | (i, x) :: r, cs, k, h => by
  obtain ⟨off, sz, vs, h1, h2, h3, h4, h5⟩ := h
  obtain ⟨ds, h6, h7⟩ := cont_afill h5
  exact ⟨ds, h6, fun k2 h => ⟨off, sz, vs, h1, h2, h3, h4, h7 k2 h⟩⟩

theorem cont_abound {o : Option V} {d : Nat} {k : Nat → Prop} (h : abound o d k) : ∃ n, k n ∧ ∀ k2 : Nat → Prop, k2 n → abound o d k2 := by
 unfold abound at h ⊢
 split at h
 ·exact ⟨_, h, fun k2 h => h⟩
 ·exact ⟨_, h.2, fun k2 h' => ⟨h.1, h'⟩⟩
 ·exact h.elim

theorem cont_bounds {lo hi : Option V} {n : Nat} {k : Nat → Nat → Prop} (h : abound hi n fun e => abound lo 0 fun l => l ≤ e ∧ e ≤ n ∧ k l e) :
  ∃ l e, k l e ∧ ∀ k2 : Nat → Nat → Prop, k2 l e → abound hi n fun e => abound lo 0 fun l => l ≤ e ∧ e ≤ n ∧ k2 l e := by
 obtain ⟨e, h1, h2⟩ := cont_abound h
 obtain ⟨l, ⟨h3, h4, h5⟩, h6⟩ := cont_abound h1
 exact ⟨l, e, h5, fun k2 h => h2 _ (h6 _ ⟨h3, h4, h⟩)⟩


def Agree (rows rows2 : List Row) : Prop := ∀ (j : Nat) cs, rows[j]? = some (.live cs) → rows2[j]? = some (.live cs) ∨ rows2[j]? = some .resv

theorem seen_ref {c : Ctx} {rows : List Row} {w : World} {ro : Nat → Prop} {ρ : Rho} {u : Value} {id off : Nat} (g : Good c rows w ro ρ) (h : Rd w ro ρ u (.ref id off)) : rows[id]? ≠ some .resv := by
 intro hr
 have := g.row id _ hr
 cases h with
 | ref h1 h2 h3 h4 =>
  simp only [RowOk] at this
  rw [this] at h1
  simp at h1
  exact h2 h1.symm

theorem seen_osl {c : Ctx} {rows : List Row} {w : World} {ro : Nat → Prop} {ρ : Rho} {u : Value} {id off n sz : Nat} (g : Good c rows w ro ρ) (h : Rd w ro ρ u (.osl id off n sz)) : rows[id]? ≠ some .resv := by
 intro hr
 have := g.row id _ hr
 simp only [RowOk] at this
 cases h with
 | osl0 h1 h2 h3 =>
  rw [this] at h1
  simp at h1
  exact h2 h1.symm
 | osl h1 h2 h3 h4 =>
  rw [this] at h1
  simp at h1
  exact h2 h1.symm

section
variable {c : Ctx} {rows rows2 : List Row} {w : World} {ro : Nat → Prop} {ρ : Rho}

theorem Agree.ref (ha : Agree rows rows2) (g : Good c rows2 w ro ρ) {u : Value} {id off : Nat} {cs : List V} (h : Rd w ro ρ u (.ref id off)) (hl : rows[id]? = some (.live cs)) : rows2[id]? = some (.live cs) :=
 (ha id cs hl).resolve_right (seen_ref g h)

theorem Agree.osl (ha : Agree rows rows2) (g : Good c rows2 w ro ρ) {u : Value} {id off n sz : Nat} {cs : List V} (h : Rd w ro ρ u (.osl id off n sz)) (hl : rows[id]? = some (.live cs)) : rows2[id]? = some (.live cs) :=
 (ha id cs hl).resolve_right (seen_osl g h)

theorem Good.cellRd (g : Good c rows2 w ro ρ) {id : Nat} {cs : List V} (hl : rows2[id]? = some (.live cs)) {i : Nat} {x : V} (hx : cs[i]? = some x) : ∃ u, Rd w ro ρ u x := by
 rcases g.row id _ hl with ⟨y, hy, hat⟩ | ⟨hc, -⟩
 ·obtain ⟨u, -, hr⟩ := hat.cellsAt i x hx
  exact ⟨u, hr⟩
 ·subst hc; simp at hx

theorem rd_fn {u : Value} {f : Fn} {cs : List V} (h : Rd w ro ρ u (.fn f cs)) : ∃ us : List Value, Rds w ro ρ us cs := by
 cases h with
 | fn h0 h1 h2 => exact ⟨_, by rw [Array.length_toList]; exact h1, fun i u x hu hx => h2 i u x (by simpa using hu) hx⟩

theorem View.agree (ha : Agree rows rows2) (g : Good c rows2 w ro ρ) {x y : V} (h : View rows x y) : ∀ {u : Value}, Rd w ro ρ u x → View rows2 x y := by
 induction h with
 | pure hp => exact fun _ => .pure hp
 | junk => exact fun _ => .junk
 | osl h1 h2 h3 _ ih =>
  intro u hu
  have hl := ha.osl g hu h1
  refine .osl hl h2 h3 fun i x y hx hy => ?_
  obtain ⟨u', hu'⟩ := g.cellRd hl hx
  exact ih i x y hx hy hu'
 | ref h1 h2 h3 _ ih =>
  intro u hu
  have hl := ha.ref g hu h1
  refine .ref hl h2 h3 fun i x y hx hy => ?_
  obtain ⟨u', hu'⟩ := g.cellRd hl hx
  exact ih i x y hx hy hu'
 | fn hl _ ih =>
  intro u hu
  obtain ⟨us, hus⟩ := rd_fn hu
  refine .fn hl fun i x y hx hy => ?_
  obtain ⟨u', -, hr⟩ := hus.get hx
  exact ih i x y hx hy hr
 | iface _ ih =>
  intro u hu
  cases hu with
  | iface h => exact .iface (ih h)
 | agg hl _ ih =>
  intro u hu
  obtain ⟨us, rfl, hus⟩ := rd_agg hu
  refine .agg hl fun i x y hx hy => ?_
  obtain ⟨u', -, hr⟩ := hus.get hx
  exact ih i x y hx hy hr
 | tup hl _ ih =>
  intro u hu
  obtain ⟨us, rfl, hus⟩ := rd_tup hu
  refine .tup hl fun i x y hx hy => ?_
  obtain ⟨u', -, hr⟩ := hus.get hx
  exact ih i x y hx hy hr

theorem Views.agree (ha : Agree rows rows2) (g : Good c rows2 w ro ρ) : ∀ {xs ys : List V} {us : List Value}, Views rows xs ys → Rds w ro ρ us xs → Views rows2 xs ys
 | [], [], us, _, _ => trivial
 | [], _ :: _, us, h, _ => h.elim
 | _ :: _, [], us, h, _ => h.elim
 | x :: xs, y :: ys, [], h, hu => by simp [Rds] at hu
 | x :: xs, y :: ys, u :: us, h, hu =>
  ⟨h.1.agree ha g (hu.2 0 u x rfl rfl), Views.agree ha g (us := us) h.2 ⟨by simpa using hu.1, fun i a b ha hb => hu.2 (i + 1) a b (by simpa using ha) (by simpa using hb)⟩⟩

theorem tr_ashown {sz : Nat} {x : V} {k : Nat → List V → Prop} (h : ashown sz x rows k) : ∃ n cs, k n cs ∧ (∀ k2 : Nat → List V → Prop, k2 n cs → ashown sz x rows k2) ∧
  (∀ (c : Ctx) (rows2 : List Row) (w : World) (ro : Nat → Prop) (ρ : Rho) (u : Value), Agree rows rows2 → Good c rows2 w ro ρ → Rd w ro ρ u x → ∀ k2 : Nat → List V → Prop, k2 n cs → ashown sz x rows2 k2) := by
 cases x with
 | nils => exact ⟨_, _, h, fun k2 h => h, fun _ _ _ _ _ _ _ _ _ k2 h => h⟩
 | sl n cs => exact ⟨_, _, h.2, fun k2 h' => ⟨h.1, h'⟩, fun _ _ _ _ _ _ _ _ _ k2 h' => ⟨h.1, h'⟩⟩
 | osl id off n sz' =>
  obtain ⟨h1, cs, h2, h3, h4⟩ := h
  exact ⟨_, _, h4, fun k2 h' => ⟨h1, cs, h2, h3, h'⟩, fun _ _ _ _ _ _ ha g hu k2 h' => ⟨h1, cs, ha.osl g hu h2, h3, h'⟩⟩
 | str s => exact ⟨_, _, h.2, fun k2 h' => ⟨h.1, h'⟩, fun _ _ _ _ _ _ _ _ _ k2 h' => ⟨h.1, h'⟩⟩
 | val v => exact ⟨_, _, h.2, fun k2 h' => ⟨h.1, h'⟩, fun _ _ _ _ _ _ _ _ _ k2 h' => ⟨h.1, h'⟩⟩
 | _ => exact False.elim h

end


def upd (rows : List Row) (id : Nat) : Option (List V) → List Row
 | none => rows
 | some cs => rput rows id (.live cs)

def opKind : Op → Nat
 | .move _ | .assign _ | .pick _ _ _ | .build _ _ | .nilCheck _ | .binOp _ _ _ _ _ | .unOp _ _ _ | .makeFunc _ _ _ | .makeInterface _ _ | .fieldAddr _ _ _ | .field _ _ _ | .indexAddr _ _ _ | .index _ _ _ | .extract _ _ => 0
 | .alloc _ | .box _ _ | .buildSlice _ _ _ | .makeSlice _ _ _ => 1
 | .load _ _ | .slice _ _ _ _ _ | .convert _ _ _ => 2
 | .call c => (match c.callee with
  | .builtin .len | .builtin .min | .builtin .max => 0
  | .value _ => 2
  | _ => 3)
 | _ => 3

def opAllocs (P : Program) : Op → Bool
 | .alloc _ | .box _ _ | .buildSlice _ _ _ | .makeSlice _ _ _ => true
 | .convert _ d _ => (uslice P d).isSome
 | .call c => (match c.callee with
  | .builtin .append => true
  | _ => false)
 | _ => false

theorem aeff_pure {op : Op} {id : Nat} {s : List V} {rows : List Row} {k : KV} (hk : opKind op = 0) (h : aeff P true op id s rows k) :
  ∃ v, k v rows ∧ ∀ id2 rows2 (k2 : KV), k2 v rows2 → aeff P true op id2 s rows2 k2 := by
 cases op <;> simp only [opKind] at hk <;> (try (exact absurd hk (by decide))) <;> simp only [aeff] at h ⊢
 case move x => exact ⟨_, h, fun _ _ k2 h => h⟩
 case assign x => exact ⟨_, h, fun _ _ k2 h => h⟩
 case pick q x y =>
  cases hq : oval s q with
  | bool t =>
   rw [hq] at h
   simp only at h
   cases t with
   | true => exact ⟨_, by simpa using h, fun _ _ k2 h => by simpa using h⟩
   | false => exact ⟨_, by simpa using h, fun _ _ k2 h => by simpa using h⟩
  | _ => rw [hq] at h; exact h.elim
 case build t parts =>
  obtain ⟨z, h1, h2, h3⟩ := h
  obtain ⟨ds, h4, h5⟩ := cont_afill h3
  exact ⟨_, h4, fun _ _ k2 h => ⟨z, h1, h2, h5 _ h⟩⟩
 case nilCheck x =>
  cases hx : oval s x with
  | ref id off => rw [hx] at h; exact ⟨_, h, fun _ _ k2 h => h⟩
  | rptr cs => rw [hx] at h; exact ⟨_, h, fun _ _ k2 h => h⟩
  | fn f cap =>
   rw [hx] at h
   cases f with
   | func f => exact ⟨_, h, fun _ _ k2 h => h⟩
   | _ => exact h.elim
  | _ => rw [hx] at h; exact h.elim
 case binOp op xt x y yt => obtain ⟨v, h1, h2⟩ := cont_abin h; exact ⟨v, h1, fun _ rows2 k2 h => h2 (fun v => k2 v rows2) h⟩
 case unOp op t x => obtain ⟨v, h1, h2⟩ := cont_aun h; exact ⟨v, h1, fun _ rows2 k2 h => h2 (fun v => k2 v rows2) h⟩
 case makeFunc fn first cap => exact ⟨_, h.2, fun _ _ k2 h' => ⟨h.1, h'⟩⟩
 case makeInterface t x => exact ⟨_, h.2, fun _ _ k2 h' => ⟨h.1, h'⟩⟩
 case fieldAddr t x f =>
  obtain ⟨ft, o, n, h1, h2, h3⟩ := h
  cases hx : oval s x with
  | ref id off => rw [hx] at h3; exact ⟨_, h3, fun _ _ k2 h => ⟨ft, o, n, h1, h2, h⟩⟩
  | rptr cs => rw [hx] at h3; exact ⟨_, h3, fun _ _ k2 h => ⟨ft, o, n, h1, h2, h⟩⟩
  | _ => rw [hx] at h3; exact False.elim h3
 case field t x f => obtain ⟨v, h1, h2⟩ := cont_afield h; exact ⟨v, h1, fun _ rows2 k2 h => h2 (fun v => k2 v rows2) h⟩
 case indexAddr t x i =>
  generalize oval s i = ix at h
  generalize oval s x = x at h
  cases ix with
  | int kd n =>
   cases x with
   | sl m cs => obtain ⟨e, sz, h1, h2, h3, h4, h5⟩ := h; exact ⟨_, h5, fun _ _ k2 h => ⟨e, sz, h1, h2, h3, h4, h⟩⟩
   | osl id off m sz => obtain ⟨e, h1, h2, h3, h4, h5⟩ := h; exact ⟨_, h5, fun _ _ k2 h => ⟨e, h1, h2, h3, h4, h⟩⟩
   | ref id off => obtain ⟨m, e, sz, h1, h2, h3, h4, h5⟩ := h; exact ⟨_, h5, fun _ _ k2 h => ⟨m, e, sz, h1, h2, h3, h4, h⟩⟩
   | rptr cs => obtain ⟨m, e, sz, h1, h2, h3, h4, h5⟩ := h; exact ⟨_, h5, fun _ _ k2 h => ⟨m, e, sz, h1, h2, h3, h4, h⟩⟩
   | _ => exact False.elim h
  | _ => exact False.elim h
 case index t x i => obtain ⟨v, h1, h2⟩ := cont_aindex h; exact ⟨v, h1, fun _ rows2 k2 h => h2 (fun v => k2 v rows2) h⟩
 case extract t i =>
  cases ht : oval s t with
  | tup vs => rw [ht] at h; obtain ⟨v, h1, h2⟩ := h; exact ⟨v, h2, fun _ _ k2 h => ⟨v, h1, h⟩⟩
  | _ => rw [ht] at h; exact h.elim
 case call q =>
  obtain ⟨callee, args, ts⟩ := q
  cases callee with
  | builtin b =>
   cases b <;> simp only at hk <;> (try (exact absurd hk (by decide))) <;> simp only at h ⊢
   case len =>
    generalize args.toList.map (oval s) = xs at h
    match xs, h with
    | [x], h =>
     obtain ⟨t, h1, h2⟩ := h
     obtain ⟨v, h3, h4⟩ := cont_alen h2
     exact ⟨v, h3, fun _ rows2 k2 h => ⟨t, h1, h4 (fun v => k2 v rows2) h⟩⟩
    | [], h => exact False.elim h
    | _ :: _ :: _, h => exact False.elim h
   case max => obtain ⟨v, h1, h2⟩ := cont_aminmax (show aminmax true (args.toList.map (oval s)) (fun v => k v rows) from h); exact ⟨v, h1, fun _ rows2 k2 h => h2 (fun v => k2 v rows2) h⟩
   case min => obtain ⟨v, h1, h2⟩ := cont_aminmax (show aminmax false (args.toList.map (oval s)) (fun v => k v rows) from h); exact ⟨v, h1, fun _ rows2 k2 h => h2 (fun v => k2 v rows2) h⟩
  | _ => simp at hk


end
end Go.VS
set_option linter.all false
namespace Go.VS

section
variable {P : Program}

theorem aeff_read {op : Op} {id : Nat} {s : List V} {rows : List Row} {k : KV} (hk : opKind op ≠ 3) (h : aeff P true op id s rows k) :
  ∃ v e, k v (upd rows id e) ∧ (e ≠ none → Free rows id ∧ opAllocs P op = true) ∧ (∀ k2 : KV, k2 v (upd rows id e) → aeff P true op id s rows k2) ∧
   (∀ (c : Ctx) (rows2 : List Row) (w : World) (ro : Nat → Prop) (ρ : Rho), Agree rows rows2 → (e ≠ none → Free rows2 id) → Good c rows2 w ro ρ → (∀ x ∈ op.operands, ∃ u, Rd w ro ρ u (oval s x)) → ∀ k2 : KV, k2 v (upd rows2 id e) → aeff P true op id s rows2 k2) := by
 by_cases h0 : opKind op = 0
 ·obtain ⟨v, h1, h2⟩ := aeff_pure h0 h
  exact ⟨v, none, h1, fun h => absurd rfl h, fun k2 h => h2 id rows k2 h, fun _ rows2 _ _ _ _ _ _ _ k2 h => h2 id rows2 k2 h⟩
 cases op <;> simp only [opKind] at hk h0 <;> (try (exact absurd rfl hk)) <;> (try (exact absurd trivial h0)) <;> simp only [aeff] at h ⊢
 case alloc e =>
  obtain ⟨z, h1, h2, h3⟩ := h
  exact ⟨_, some z, h3, fun _ => ⟨h2, rfl⟩, fun k2 h => ⟨z, h1, h2, h⟩, fun _ rows2 _ _ _ _ hf _ _ k2 h => ⟨z, h1, hf (by simp), h⟩⟩
 case box e v =>
  obtain ⟨vs, h1, h2, h3⟩ := h
  exact ⟨_, some vs, h3, fun _ => ⟨h2, rfl⟩, fun k2 h => ⟨vs, h1, h2, h⟩, fun _ rows2 _ _ _ _ hf _ _ k2 h => ⟨vs, h1, hf (by simp), h⟩⟩
 case buildSlice t n parts =>
  obtain ⟨e, sz, z, h1, h2, h3, h4, h5, h6, h7⟩ := h
  obtain ⟨ds, h8, h9⟩ := cont_afill h7
  exact ⟨_, some ds, h8, fun _ => ⟨h6, rfl⟩, fun k2 h => ⟨e, sz, z, h1, h2, h3, h4, h5, h6, h9 _ h⟩, fun _ rows2 _ _ _ _ hf _ _ k2 h => ⟨e, sz, z, h1, h2, h3, h4, h5, hf (by simp), h9 _ h⟩⟩
 case makeSlice t l q =>
  generalize oval s l = vl at h
  generalize oval s q = vq at h
  cases vl with
  | int k1 l =>
   cases vq with
   | int k2 q =>
    obtain ⟨e, sz, by', z, h1, h2, h3, h4, h5, h6, h7, h8, h9, h10, h11⟩ := h
    exact ⟨_, some _, h11, fun _ => ⟨h10, rfl⟩, fun k2 h => ⟨e, sz, by', z, h1, h2, h3, h4, h5, h6, h7, h8, h9, h10, h⟩, fun _ rows2 _ _ _ _ hf _ _ k2 h => ⟨e, sz, by', z, h1, h2, h3, h4, h5, h6, h7, h8, h9, hf (by simp), h⟩⟩
   | _ => exact False.elim h
  | _ => exact False.elim h
 case load t a =>
  cases ha : oval s a with
  | ref i off =>
   rw [ha] at h
   obtain ⟨cs, h1, h2, h3⟩ := h
   obtain ⟨v, h4, h5⟩ := cont_acells h3
   refine ⟨v, none, h4, fun h => absurd rfl h, fun k2 h => ⟨cs, h1, h2, h5 _ h⟩, fun c rows2 w ro ρ hag _ g hr k2 h => ?_⟩
   obtain ⟨u, hu⟩ := hr a (by simp [Op.operands])
   rw [ha] at hu
   exact ⟨cs, hag.ref g hu h1, h2, h5 _ h⟩
  | rptr cs =>
   rw [ha] at h
   obtain ⟨v, h4, h5⟩ := cont_acells (show acells P t cs 0 (fun v => k v rows) from h)
   exact ⟨v, none, h4, fun h => absurd rfl h, fun k2 h => h5 (fun v => k2 v rows) h, fun _ rows2 _ _ _ _ _ _ _ k2 h => h5 (fun v => k2 v rows2) h⟩
  | _ => rw [ha] at h; exact False.elim h
 case convert sr d x =>
  cases hx : oval s x with
  | int kd n =>
   rw [hx] at h
   obtain ⟨kd', h1, h2, h3⟩ := h
   exact ⟨_, none, h3, fun h => absurd rfl h, fun k2 h => ⟨kd', h1, h2, h⟩, fun _ rows2 _ _ _ _ _ _ _ k2 h => ⟨kd', h1, h2, h⟩⟩
  | str l =>
   rw [hx] at h
   obtain ⟨h1, h2⟩ := h
   split at h2
   ·rename_i hd
    exact ⟨_, none, h2, fun h => absurd rfl h, fun k2 h => ⟨h1, by rw [if_pos hd]; exact h⟩, fun _ rows2 _ _ _ _ _ _ _ k2 h => ⟨h1, by rw [if_pos hd]; exact h⟩⟩
   ·rename_i hd
    obtain ⟨e, h3, h4, h5, h6⟩ := h2
    exact ⟨_, some _, h6, fun _ => ⟨h5, by simp [opAllocs, h3]⟩, fun k2 h => ⟨h1, by rw [if_neg hd]; exact ⟨e, h3, h4, h5, h⟩⟩, fun _ rows2 _ _ _ _ hf _ _ k2 h => ⟨h1, by rw [if_neg hd]; exact ⟨e, h3, h4, hf (by simp), h⟩⟩⟩
  | _ =>
   all_goals
    rw [hx] at h
    obtain ⟨h1, h2, h3⟩ := h
    obtain ⟨n, cs, ⟨h4, h5⟩, h6, h7⟩ := tr_ashown h3
    exact ⟨_, none, h5, fun h => absurd rfl h, fun k2 h => ⟨h1, h2, h6 _ ⟨h4, h⟩⟩, fun c rows2 w ro ρ hag _ g hr k2 h => by
     obtain ⟨u, hu⟩ := hr x (by simp [Op.operands])
     rw [hx] at hu
     obtain ⟨n', cs', ⟨h4', h5'⟩, h6', h7'⟩ := tr_ashown (h6 (fun a b => (∀ c ∈ b, c.isByte = true) ∧ b = cs) ⟨h4, rfl⟩)
     subst h5'
     exact ⟨h1, h2, h7' c rows2 w ro ρ u hag g hu _ ⟨h4', h⟩⟩⟩
 case slice t x lo hi mx =>
  obtain ⟨hm, h⟩ := h
  cases hx : oval s x with
  | str l =>
   rw [hx] at h
   obtain ⟨h1, h2⟩ := h
   obtain ⟨a, b, h3, h4⟩ := cont_bounds h2
   exact ⟨_, none, h3, fun h => absurd rfl h, fun k2 h => ⟨hm, h1, h4 (fun a b => k2 (.str ((l.drop a).take (b - a))) rows) h⟩, fun _ rows2 _ _ _ _ _ _ _ k2 h => ⟨hm, h1, h4 (fun a b => k2 (.str ((l.drop a).take (b - a))) rows2) h⟩⟩
  | nils =>
   rw [hx] at h
   obtain ⟨h1, h2⟩ := h
   obtain ⟨a, b, h3, h4⟩ := cont_bounds h2
   exact ⟨_, none, h3, fun h => absurd rfl h, fun k2 h => ⟨hm, h1, h4 (fun a b => k2 .nils rows) h⟩, fun _ rows2 _ _ _ _ _ _ _ k2 h => ⟨hm, h1, h4 (fun a b => k2 .nils rows2) h⟩⟩
  | sl n cs =>
   rw [hx] at h
   obtain ⟨e, sz, h1, h2, h3⟩ := h
   obtain ⟨a, b, h4, h5⟩ := cont_bounds h3
   exact ⟨_, none, h4, fun h => absurd rfl h, fun k2 h => ⟨hm, e, sz, h1, h2, h5 (fun a b => k2 (.sl (b - a) ((cs.drop (a * sz)).take ((b - a) * sz))) rows) h⟩,
    fun _ rows2 _ _ _ _ _ _ _ k2 h => ⟨hm, e, sz, h1, h2, h5 (fun a b => k2 (.sl (b - a) ((cs.drop (a * sz)).take ((b - a) * sz))) rows2) h⟩⟩
  | osl i off n sz =>
   rw [hx] at h
   obtain ⟨e, h1, h2, h3⟩ := h
   obtain ⟨a, b, h4, h5⟩ := cont_bounds h3
   exact ⟨_, none, h4, fun h => absurd rfl h, fun k2 h => ⟨hm, e, h1, h2, h5 (fun a b => k2 (.osl i (off + a * sz) (b - a) sz) rows) h⟩,
    fun _ rows2 _ _ _ _ _ _ _ k2 h => ⟨hm, e, h1, h2, h5 (fun a b => k2 (.osl i (off + a * sz) (b - a) sz) rows2) h⟩⟩
  | ref i off =>
   rw [hx] at h
   obtain ⟨n, e, sz, cs, h1, h2, h3, h4, h5, h6⟩ := h
   obtain ⟨a, b, h7, h8⟩ := cont_bounds h6
   refine ⟨_, none, h7, fun h => absurd rfl h, fun k2 h => ⟨hm, n, e, sz, cs, h1, h2, h3, h4, h5, h8 (fun a b => k2 (.osl i (off + a * sz) (b - a) sz) rows) h⟩, fun c rows2 w ro ρ hag _ g hr k2 h => ?_⟩
   obtain ⟨u, hu⟩ := hr x (by simp [Op.operands])
   rw [hx] at hu
   exact ⟨hm, n, e, sz, cs, h1, h2, hag.ref g hu h3, h4, h5, h8 (fun a b => k2 (.osl i (off + a * sz) (b - a) sz) rows2) h⟩
  | _ => rw [hx] at h; exact False.elim h
 case call q =>
  obtain ⟨callee, args, ts⟩ := q
  cases callee with
  | builtin b => cases b <;> simp at hk h0
  | invoke r m => simp at hk
  | value f =>
   simp only at h ⊢
   cases hf : oval s f with
   | fn fn cap =>
    rw [hf] at h
    cases fn with
    | func f' =>
     rcases h with h | ⟨h, -⟩
     ·rcases h with ⟨args', r, h1, h2, h3, h4⟩ | ⟨r, h1, h2, h3⟩
      ·refine ⟨r, none, h4, fun h => absurd rfl h, fun k2 h => .inl (.inl ⟨args', r, h1, h2, h3, h⟩), fun c rows2 w ro ρ hag _ g hr k2 h => .inl (.inl ⟨args', r, ?_, h2, h3, h⟩)⟩
       have hex : ∀ xs : List Operand, (∀ x ∈ xs, ∃ u, Rd w ro ρ u (oval s x)) → ∃ us, Rds w ro ρ us (xs.map (oval s)) := by
        intro xs
        induction xs with
        | nil => intro _; exact ⟨[], rfl, fun i u x h => by simp at h⟩
        | cons x xs ih =>
         intro hx
         obtain ⟨u, hu⟩ := hx x (by simp)
         obtain ⟨us, hus⟩ := ih fun y hy => hx y (by simp [hy])
         refine ⟨u :: us, by simp [hus.1], fun i a b ha hb => ?_⟩
         cases i with
         | zero => simp at ha hb; subst ha; subst hb; exact hu
         | succ i => exact hus.2 i a b (by simpa using ha) (by simpa using hb)
       obtain ⟨us, hus⟩ := hex args.toList fun x hx => hr x (by simp [Op.operands, Call.operands]; exact .inr (by simpa using hx))
       obtain ⟨uf, huf⟩ := hr f (by simp [Op.operands, Call.operands])
       rw [hf] at huf
       obtain ⟨uc, huc⟩ := rd_fn huf
       exact h1.agree hag g (hus.append huc)
      ·exact ⟨r, none, h3, fun h => absurd rfl h, fun k2 h => .inl (.inr ⟨r, h1, h2, h⟩), fun _ rows2 _ _ _ _ _ _ _ k2 h => .inl (.inr ⟨r, h1, h2, h⟩)⟩
     ·cases h
    | _ => exact False.elim h
   | _ => rw [hf] at h; exact False.elim h

theorem aeff_cont {op : Op} {id : Nat} {s : List V} {rows : List Row} {k : KV} (h : aeff P true op id s rows k) : ∃ v rows', k v rows' ∧ ∀ k2 : KV, k2 v rows' → aeff P true op id s rows k2 := by
 by_cases hk : opKind op = 3
 ·cases op <;> simp only [opKind] at hk <;> (try (exact absurd hk (by decide))) <;> simp only [aeff] at h ⊢ <;> (try (exact h.elim))
  case store t a v =>
   cases ha : oval s a with
   | ref i off =>
    rw [ha] at h
    obtain ⟨cs, vs, n, h1, h2, h3, h4, h5, h6, h7, h8⟩ := h
    exact ⟨_, _, h8, fun k2 h => ⟨cs, vs, n, h1, h2, h3, h4, h5, h6, h7, h⟩⟩
   | _ => rw [ha] at h; exact False.elim h
  case call q =>
   obtain ⟨callee, args, ts⟩ := q
   cases callee with
   | value f => simp at hk
   | invoke r m => exact h.elim
   | builtin b =>
    simp only at h ⊢
    generalize args.toList.map (oval s) = xs at h
    cases b <;> simp only at hk <;> (try (exact absurd hk (by decide)))
    case append =>
     match xs, h with
     | [sv, x], h =>
      obtain ⟨t, t', h1, h2, h3, e, sz, by', z, q1, q2, q3, q4, q5, h⟩ := h
      obtain ⟨m, new, ⟨p1, p2⟩, p3, -⟩ := tr_ashown h
      cases sv with
      | nils =>
       obtain ⟨r1, r2, r3, r4⟩ := p2
       exact ⟨_, _, r4, fun k2 h => ⟨t, t', h1, h2, h3, e, sz, by', z, q1, q2, q3, q4, q5, p3 _ ⟨p1, r1, r2, r3, h⟩⟩⟩
      | osl i off n sz' =>
       obtain ⟨r1, r2, r3, r4, cs, r5, r6, r7⟩ := p2
       exact ⟨_, _, r7, fun k2 h => ⟨t, t', h1, h2, h3, e, sz, by', z, q1, q2, q3, q4, q5, p3 _ ⟨p1, r1, r2, r3, r4, cs, r5, r6, h⟩⟩⟩
      | _ => exact False.elim p2
     | [], h => exact False.elim h
     | [_], h => exact False.elim h
     | _ :: _ :: _ :: _, h => exact False.elim h
    case copy =>
     match xs, h with
     | [d, x], h =>
      obtain ⟨t, h1, h⟩ := h
      cases d with
      | osl i off n sz =>
       obtain ⟨e, cs, q1, q2, q3, q4, q5, h⟩ := h
       obtain ⟨m, new, ⟨p1, p2, p3⟩, p4, -⟩ := tr_ashown h
       exact ⟨_, _, p3, fun k2 h => ⟨t, h1, e, cs, q1, q2, q3, q4, q5, p4 _ ⟨p1, p2, h⟩⟩⟩
      | _ => exact False.elim h
     | [], h => exact False.elim h
     | [_], h => exact False.elim h
     | _ :: _ :: _ :: _, h => exact False.elim h
    all_goals exact False.elim h
 ·obtain ⟨v, e, h1, -, h2, -⟩ := aeff_read hk h
  exact ⟨v, _, h1, h2⟩

theorem rput_len {α : Type} {l : List α} {id : Nat} {x : α} (h : id < l.length) : (rput l id x).length = l.length := by
 rw [rput_length, if_neg (by omega)]

theorem aeff_len {op : Op} {id : Nat} {s : List V} {rows : List Row} {k : KV} (hid : opAllocs P op = true → id < rows.length) (h : aeff P true op id s rows k) : aeff P true op id s rows fun v r => k v r ∧ r.length = rows.length := by
 by_cases hk : opKind op = 3
 ·cases op <;> simp only [opKind] at hk <;> (try (exact absurd hk (by decide))) <;> simp only [aeff] at h ⊢ <;> (try (exact h.elim))
  case store t a v =>
   cases ha : oval s a with
   | ref i off =>
    rw [ha] at h
    obtain ⟨cs, vs, n, h1, h2, h3, h4, h5, h6, h7, h8⟩ := h
    exact ⟨cs, vs, n, h1, h2, h3, h4, h5, h6, h7, h8, by simp⟩
   | _ => rw [ha] at h; exact False.elim h
  case call q =>
   obtain ⟨callee, args, ts⟩ := q
   cases callee with
   | value f => simp at hk
   | invoke r m => exact h.elim
   | builtin b =>
    simp only at h ⊢
    generalize args.toList.map (oval s) = xs at h
    cases b <;> simp only at hk <;> (try (exact absurd hk (by decide)))
    case append =>
     have hlt := hid rfl
     match xs, h with
     | [sv, x], h =>
      obtain ⟨t, t', h1, h2, h3, e, sz, by', z, q1, q2, q3, q4, q5, h⟩ := h
      obtain ⟨m, new, ⟨p1, p2⟩, p3, -⟩ := tr_ashown h
      refine ⟨t, t', h1, h2, h3, e, sz, by', z, q1, q2, q3, q4, q5, p3 _ ⟨p1, ?_⟩⟩
      cases sv with
      | nils =>
       obtain ⟨r1, r2, r3, r4⟩ := p2
       exact ⟨r1, r2, r3, r4, rput_len hlt⟩
      | osl i off n sz' =>
       obtain ⟨r1, r2, r3, r4, cs, r5, r6, r7⟩ := p2
       exact ⟨r1, r2, r3, r4, cs, r5, r6, r7, by rw [rput_len (by simpa using hlt)]; simp⟩
      | _ => exact False.elim p2
     | [], h => exact False.elim h
     | [_], h => exact False.elim h
     | _ :: _ :: _ :: _, h => exact False.elim h
    case copy =>
     match xs, h with
     | [d, x], h =>
      obtain ⟨t, h1, h⟩ := h
      cases d with
      | osl i off n sz =>
       obtain ⟨e, cs, q1, q2, q3, q4, q5, h⟩ := h
       obtain ⟨m, new, ⟨p1, p2, p3⟩, p4, -⟩ := tr_ashown h
       exact ⟨t, h1, e, cs, q1, q2, q3, q4, q5, p4 _ ⟨p1, p2, p3, by simp⟩⟩
      | _ => exact False.elim h
     | [], h => exact False.elim h
     | [_], h => exact False.elim h
     | _ :: _ :: _ :: _, h => exact False.elim h
    all_goals exact False.elim h
 ·obtain ⟨v, e, h1, f1, h2, -⟩ := aeff_read hk h
  refine h2 _ ⟨h1, ?_⟩
  cases e with
  | none => rfl
  | some cs => exact rput_len (hid (f1 (by simp)).2)

theorem afill_congr {place : Nat → Option (Nat × Nat)} {f g : Operand → V} : ∀ {parts : List (Nat × Operand)} {cs : List V} {k : List V → Prop}, (∀ p ∈ parts, f p.2 = g p.2) → afill place f parts cs k → afill place g parts cs k
 | [], _, _, _, h => h
 | (i, x) :: r, cs, k, hp, h => by
  obtain ⟨off, sz, vs, h1, h2, h3, h4, h5⟩ := h
  exact ⟨off, sz, vs, h1, by rw [← hp (i, x) (by simp)]; exact h2, h3, h4, afill_congr (fun p hp' => hp p (by simp [hp'])) h5⟩

theorem aeff_congr {op : Op} {id : Nat} {s s2 : List V} {rows : List Row} {k : KV} {draw : Bool} (ho : ∀ x ∈ op.operands, oval s x = oval s2 x) (h : aeff P draw op id s rows k) : aeff P draw op id s2 rows k := by
 have hmap : ∀ xs : List Operand, (∀ x ∈ xs, oval s x = oval s2 x) → xs.map (oval s) = xs.map (oval s2) := fun xs hx => List.map_congr_left hx
 cases op <;> simp only [aeff] at h ⊢ <;> simp only [Op.operands] at ho <;> (try (exact h))
 case move x => rw [← ho x (by simp)]; exact h
 case assign x => rw [← ho x (by simp)]; exact h
 case pick q a b => rw [← ho q (by simp), ← ho a (by simp), ← ho b (by simp)]; exact h
 case box t v => rw [← ho v (by simp)]; exact h
 case build t parts =>
  obtain ⟨z, h1, h2, h3⟩ := h
  exact ⟨z, h1, h2, afill_congr (fun p hp => ho p.2 (by simp; exact ⟨p.1, by simpa using hp⟩)) h3⟩
 case buildSlice t n parts =>
  obtain ⟨e, sz, z, h1, h2, h3, h4, h5, h6, h7⟩ := h
  exact ⟨e, sz, z, h1, h2, h3, h4, h5, h6, afill_congr (fun p hp => ho p.2 (by simp; exact ⟨p.1, by simpa using hp⟩)) h7⟩
 case load t a => rw [← ho a (by simp)]; exact h
 case store t a v => rw [← ho a (by simp), ← ho v (by simp)]; exact h
 case nilCheck x => rw [← ho x (by simp)]; exact h
 case binOp op xt x y yt => rw [← ho x (by simp), ← ho y (by simp)]; exact h
 case unOp op t x => rw [← ho x (by simp)]; exact h
 case convert a b x => rw [← ho x (by simp)]; exact h
 case makeFunc fn first cap =>
  obtain ⟨h1, h2⟩ := h
  exact ⟨h1, by rw [← hmap cap.toList fun x hx => ho x (by simp; exact .inr (by simpa using hx))]; exact h2⟩
 case makeInterface t x => rw [← ho x (by simp)]; exact h
 case makeSlice t l q => rw [← ho l (by simp), ← ho q (by simp)]; exact h
 case slice t x lo hi mx =>
  have e0 := ho x (by simp)
  have e1 : lo.map (oval s) = lo.map (oval s2) := by cases lo <;> simp_all
  have e2 : hi.map (oval s) = hi.map (oval s2) := by cases hi <;> simp_all
  have e3 : mx.map (oval s) = mx.map (oval s2) := by cases mx <;> simp_all
  rw [← e0, ← e1, ← e2, ← e3]; exact h
 case fieldAddr t x f => rw [← ho x (by simp)]; exact h
 case field t x f => rw [← ho x (by simp)]; exact h
 case indexAddr t x i => rw [← ho x (by simp), ← ho i (by simp)]; exact h
 case index t x i => rw [← ho x (by simp), ← ho i (by simp)]; exact h
 case extract t i => rw [← ho t (by simp)]; exact h
 case call q =>
  obtain ⟨callee, args, ts⟩ := q
  cases callee with
  | builtin b =>
   simp only at h ⊢
   rw [← hmap args.toList fun x hx => ho x (by simp [Call.operands]; simpa using hx)]
   exact h
  | value f =>
   simp only at h ⊢
   rw [← hmap args.toList fun x hx => ho x (by simp [Call.operands]; exact .inr (by simpa using hx)), ← ho f (by simp [Call.operands])]
   exact h
  | invoke r m => exact h.elim

end
end Go.VS
