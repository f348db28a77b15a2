/-
  VALUE SEMANTICS, 2: the state of knowledge (rows, read-only blocks) and its steps: a new block, a store, a row that dies, that becomes read only.
  Conditions: none; over any program.
-/
import Derived.Test.YtllehihgfbkgpaaVs1
namespace Go.VS

/-- A row of the call's own: kept for later, dead, or with the cells that are known from its first one on. -/
inductive Row where
  | resv
  | dead
  | live (cs : List V)
  deriving Inhabited

/-- What a call began with. -/
structure Ctx where
  w : World
  ro : Nat → Prop
  ρ : Rho

/-- The blocks that the call was handed to write. -/
def Ctx.may (c : Ctx) (b : Nat) : Prop := ∃ (id : Nat) (x : Own), c.ρ[id]? = some (.on x) ∧ x.b = b

def RowAt (w : World) (ro : Nat → Prop) (ρ : Rho) (x : Own) (cs : List V) : Prop :=
  ∃ C e fr, w.heap[x.b]? = some (.cells C e fr) ∧ C.size = x.m ∧ (∀ i, i < x.m → ¬ (fr.1 ≤ i ∧ i < fr.2)) ∧ x.o + cs.length ≤ x.m ∧
    ∀ (i : Nat) v, cs[i]? = some v → ∃ u, C[x.o + i]? = some u ∧ Rd w ro ρ u v

def RowOk (w : World) (ro : Nat → Prop) (ρ : Rho) (id : Nat) : Row → Prop
  | .resv => ρ[id]? = some .resv
  | .dead => ρ[id]? = some .dead
  | .live cs => (∃ x, ρ[id]? = some (.on x) ∧ RowAt w ro ρ x cs) ∨ (cs = [] ∧ ρ[id]? = some .virt)

structure Good (c : Ctx) (rows : List Row) (w : World) (ro : Nat → Prop) (ρ : Rho) : Prop where
  os : w.os = c.w.os
  tape : w.tape = c.w.tape
  output : w.output = c.w.output
  size : c.w.heap.size ≤ w.heap.size
  old : ∀ b, b < c.w.heap.size → ¬ c.may b → w.heap[b]? = c.w.heap[b]?
  roLt : ∀ b, ro b → b < w.heap.size
  roNew : ∀ b, ro b → c.ro b ∨ c.may b ∨ c.w.heap.size ≤ b
  len : ρ.length = rows.length
  ownNew : ∀ (id : Nat) x, ρ[id]? = some (.on x) → (c.may x.b ∨ c.w.heap.size ≤ x.b) ∧ ¬ ro x.b
  inj : ∀ (i j : Nat) x y, ρ[i]? = some (.on x) → ρ[j]? = some (.on y) → x.b = y.b → i = j
  row : ∀ (id : Nat) r, rows[id]? = some r → RowOk w ro ρ id r
  ext : Ext c.w c.ro c.ρ w ro ρ

theorem RowAt.ext {w w' : World} {ro ro' : Nat → Prop} {ρ ρ' : Rho} {x : Own} {cs : List V} (h : RowAt w ro ρ x cs) (e : Ext w ro ρ w' ro' ρ')
    (hb : w'.heap[x.b]? = w.heap[x.b]?) : RowAt w' ro' ρ' x cs := by
  obtain ⟨C, t, fr, h1, h2, h3, h4, h5⟩ := h
  refine ⟨C, t, fr, hb.trans h1, h2, h3, h4, fun i v hv => ?_⟩
  obtain ⟨u, hu, hr⟩ := h5 i v hv
  exact ⟨u, hu, hr.ext e⟩

section
variable {c : Ctx} {rows : List Row} {w : World} {ro : Nat → Prop} {ρ : Rho}

theorem Good.alive (g : Good c rows w ro ρ) {id : Nat} {x : Own} (h : ρ[id]? = some (.on x)) : ∃ cs, rows[id]? = some (.live cs) ∧ RowAt w ro ρ x cs := by
  have hlt : id < ρ.length := (List.getElem?_eq_some_iff.1 h).1
  have hlt' : id < rows.length := by rw [← g.len]; exact hlt
  obtain ⟨r, hr⟩ : ∃ r, rows[id]? = some r := ⟨rows[id], by simp [hlt']⟩
  have := g.row id r hr
  cases r with
  | resv => simp [RowOk, h] at this
  | dead => simp [RowOk, h] at this
  | live cs =>
    rcases this with ⟨y, hy, hat⟩ | ⟨-, hv⟩
    · rw [h] at hy
      simp at hy
      subst hy
      exact ⟨cs, hr, hat⟩
    · rw [h] at hv; simp at hv

theorem Good.ownLt (g : Good c rows w ro ρ) {id : Nat} {x : Own} (h : ρ[id]? = some (.on x)) : x.b < w.heap.size := by
  obtain ⟨cs, _, C, e, fr, hb, _⟩ := g.alive h
  exact (Array.getElem?_eq_some_iff.1 hb).1

theorem Good.live (g : Good c rows w ro ρ) {id : Nat} {cs : List V} (h : rows[id]? = some (.live cs)) : ∃ y, ρ[id]? = some y ∧ y ≠ .resv ∧ y ≠ .dead ∧
    (∀ x, y = .on x → RowAt w ro ρ x cs) ∧ (y = .virt → cs = []) := by
  rcases g.row id _ h with ⟨x, hx, hat⟩ | ⟨hc, hv⟩
  · exact ⟨_, hx, (fun h => by cases h), (fun h => by cases h), (fun y hy => by cases hy; exact hat), (fun h => by cases h)⟩
  · exact ⟨_, hv, (fun h => by cases h), (fun h => by cases h), (fun y hy => by cases hy), fun _ => hc⟩

/-- The world turns; the blocks that are known stay. -/
theorem Good.world (g : Good c rows w ro ρ) {w' : World} (hos : w'.os = w.os) (ht : w'.tape = w.tape) (ho : w'.output = w.output) (hs : w.heap.size ≤ w'.heap.size)
    (hh : ∀ b, b < w.heap.size → (ro b ∨ (∃ (id : Nat) (x : Own), ρ[id]? = some (.on x) ∧ x.b = b) ∨ (b < c.w.heap.size ∧ ¬ c.may b)) → w'.heap[b]? = w.heap[b]?) :
    Good c rows w' ro ρ ∧ Ext w ro ρ w' ro ρ := by
  have hext : Ext w ro ρ w' ro ρ := ⟨fun _ h => h, fun b hb => hh b (g.roLt b hb) (.inl hb), fun id y h _ => ⟨y, h, .inr rfl⟩⟩
  refine ⟨⟨hos.trans g.os, ht.trans g.tape, ho.trans g.output, Nat.le_trans g.size hs, fun b hb hm => (hh b (Nat.lt_of_lt_of_le hb g.size) (.inr (.inr ⟨hb, hm⟩))).trans (g.old b hb hm),
    fun b hb => Nat.lt_of_lt_of_le (g.roLt b hb) hs, g.roNew, g.len, g.ownNew, g.inj, fun id r hr => ?_, g.ext.trans hext⟩, hext⟩
  have := g.row id r hr
  cases r with
  | resv => exact this
  | dead => exact this
  | live cs =>
    rcases this with ⟨x, hx, hat⟩ | hv
    · exact .inl ⟨x, hx, hat.ext hext (hh x.b (g.ownLt hx) (.inr (.inl ⟨id, x, hx, rfl⟩)))⟩
    · exact .inr hv

/-- A draw. -/
theorem Good.drew (g : Good c rows w ro ρ) (n : Nat) : Good c rows { w with drawn := n } ro ρ ∧ Ext w ro ρ { w with drawn := n } ro ρ :=
  g.world rfl rfl rfl (Nat.le_refl _) fun _ _ _ => rfl

/-- A new block. -/
theorem Good.push (g : Good c rows w ro ρ) (o : Obj) : Good c rows { w with heap := w.heap.push o } ro ρ ∧ Ext w ro ρ { w with heap := w.heap.push o } ro ρ :=
  g.world rfl rfl rfl (by simp) fun b hb _ => by
    show (w.heap.push o)[b]? = _
    rw [Array.getElem?_push, if_neg (by omega)]

/-- A block that is not known is written. -/
theorem Good.loose (g : Good c rows w ro ρ) {w' : World} (k : Nat) (hos : w'.os = w.os) (ht : w'.tape = w.tape) (ho : w'.output = w.output) (hs : w'.heap.size = w.heap.size)
    (hh : ∀ b, b ≠ k → w'.heap[b]? = w.heap[b]?) (hro : ¬ ro k) (hρ : ∀ (id : Nat) x, ρ[id]? = some (.on x) → x.b ≠ k) (hk : c.may k ∨ c.w.heap.size ≤ k) :
    Good c rows w' ro ρ ∧ Ext w ro ρ w' ro ρ :=
  g.world hos ht ho (by omega) fun b _ h => hh b fun e => by
    subst e
    rcases h with h | ⟨id, x, hx, hb⟩ | ⟨h1, h2⟩
    · exact hro h
    · exact hρ id x hx hb
    · rcases hk with hk | hk
      · exact h2 hk
      · omega

/-- A row dies. -/
theorem Good.kill (g : Good c rows w ro ρ) {id : Nat} {cs : List V} (h : rows[id]? = some (.live cs)) :
    Good c (rows.set id .dead) w ro (ρ.set id .dead) ∧ Ext w ro ρ w ro (ρ.set id .dead) := by
  obtain ⟨y0, hy0, -⟩ := g.live h
  have hlt : id < ρ.length := (List.getElem?_eq_some_iff.1 hy0).1
  have hin : ∀ (j : Nat) y, (ρ.set id .dead)[j]? = some (.on y) → ρ[j]? = some (.on y) := by
    intro j y hy
    rw [List.getElem?_set] at hy
    split at hy
    · simp at hy
    · exact hy
  have hext : Ext w ro ρ w ro (ρ.set id .dead) := by
    refine ⟨fun _ h => h, fun _ _ => rfl, fun j y hy _ => ?_⟩
    by_cases hj : id = j
    · subst hj
      exact ⟨.dead, by simp [hlt], .inl rfl⟩
    · exact ⟨y, by rw [List.getElem?_set_ne hj]; exact hy, .inr rfl⟩
  refine ⟨⟨g.os, g.tape, g.output, g.size, g.old, g.roLt, g.roNew, by simp [g.len], fun j y hy => g.ownNew j y (hin j y hy), fun i j y z hy hz => g.inj i j y z (hin i y hy) (hin j z hz),
    fun j r hr => ?_, g.ext.trans hext⟩, hext⟩
  by_cases hj : id = j
  · subst hj
    rw [List.getElem?_set_self (by rw [← g.len]; exact hlt)] at hr
    cases hr
    simp [RowOk, hlt]
  · rw [List.getElem?_set_ne hj] at hr
    have := g.row j r hr
    cases r with
    | resv => simpa [RowOk, List.getElem?_set_ne hj] using this
    | dead => simpa [RowOk, List.getElem?_set_ne hj] using this
    | live ds =>
      rcases this with ⟨y, hy, hat⟩ | hv
      · exact .inl ⟨y, by rw [List.getElem?_set_ne hj]; exact hy, hat.ext hext rfl⟩
      · exact .inr (by rw [List.getElem?_set_ne hj]; exact hv)

/-- A block that no row holds becomes read only. -/
theorem Good.roAdd (g : Good c rows w ro ρ) {k : Nat} (hk : k < w.heap.size) (hρ : ∀ (id : Nat) x, ρ[id]? = some (.on x) → x.b ≠ k) (hm : c.may k ∨ c.w.heap.size ≤ k) :
    Good c rows w (fun b => ro b ∨ b = k) ρ ∧ Ext w ro ρ w (fun b => ro b ∨ b = k) ρ := by
  have hext : Ext w ro ρ w (fun b => ro b ∨ b = k) ρ := ⟨fun _ h => .inl h, fun _ _ => rfl, fun id y h _ => ⟨y, h, .inr rfl⟩⟩
  refine ⟨⟨g.os, g.tape, g.output, g.size, g.old, fun b hb => ?_, fun b hb => ?_, g.len, fun j y hy => ⟨(g.ownNew j y hy).1, fun h => ?_⟩, g.inj, fun j r hr => ?_, g.ext.trans hext⟩, hext⟩
  · rcases hb with hb | rfl
    · exact g.roLt b hb
    · exact hk
  · rcases hb with hb | rfl
    · exact g.roNew b hb
    · exact .inr hm
  · rcases h with h | h
    · exact (g.ownNew j y hy).2 h
    · exact hρ j y hy h
  · have := g.row j r hr
    cases r with
    | resv => exact this
    | dead => exact this
    | live ds =>
      rcases this with ⟨y, hy, hat⟩ | hv
      · exact .inl ⟨y, hy, hat.ext hext rfl⟩
      · exact .inr hv

/-- Row `id` is laid: behind the last, or where its number was kept. -/
def rput {α : Type} (l : List α) (id : Nat) (x : α) : List α := if id = l.length then l ++ [x] else l.set id x

theorem rput_get {α : Type} {l : List α} {id : Nat} {x : α} (h : id ≤ l.length) (j : Nat) : (rput l id x)[j]? = if j = id then some x else l[j]? := by
  unfold rput
  split
  · rename_i e
    subst e
    rw [List.getElem?_append]
    by_cases hj : j < l.length
    · rw [if_pos hj, if_neg (by omega)]
    · rw [if_neg hj]
      by_cases hj' : j = l.length
      · subst hj'; simp
      · rw [if_neg hj', List.getElem?_eq_none (by simp; omega), List.getElem?_eq_none (by omega)]
  · rename_i e
    rw [List.getElem?_set]
    by_cases hj : id = j
    · subst hj; simp; omega
    · rw [if_neg hj, if_neg (fun h => hj h.symm)]

theorem rput_length {α : Type} {l : List α} {id : Nat} {x : α} : (rput l id x).length = if id = l.length then l.length + 1 else l.length := by
  unfold rput
  split <;> simp

/-- The number may be laid. -/
def Free (rows : List Row) (id : Nat) : Prop := id = rows.length ∨ rows[id]? = some .resv

theorem Good.freeLe (g : Good c rows w ro ρ) {id : Nat} (hf : Free rows id) : id ≤ ρ.length := by
  rcases hf with hf | hf
  · rw [g.len]; omega
  · have := (List.getElem?_eq_some_iff.1 hf).1
    rw [g.len]; omega

theorem Good.extPut (g : Good c rows w ro ρ) {id : Nat} (hf : Free rows id) (x : Pl) : Ext w ro ρ w ro (rput ρ id x) := by
  refine ⟨fun _ h => h, fun _ _ => rfl, fun j y hy hn => ⟨y, ?_, .inr rfl⟩⟩
  rw [rput_get (g.freeLe hf), if_neg, hy]
  rintro rfl
  rcases hf with hf | hf
  · have := (List.getElem?_eq_some_iff.1 hy).1
    rw [g.len] at this; omega
  · have := g.row j _ hf
    simp [RowOk, hy] at this
    exact hn this

/-- Row `id` is laid: a block that no row holds and that is not read only; or an empty one without a block. -/
theorem Good.add' (g : Good c rows w ro ρ) {id : Nat} (hf : Free rows id) {p : Pl} {cs : List V} (hp : (∃ x, p = .on x ∧ RowAt w ro ρ x cs ∧ ¬ ro x.b ∧
    (∀ (id : Nat) y, ρ[id]? = some (.on y) → y.b ≠ x.b) ∧ (c.may x.b ∨ c.w.heap.size ≤ x.b)) ∨ (p = .virt ∧ cs = [])) :
    Good c (rput rows id (.live cs)) w ro (rput ρ id p) ∧ Ext w ro ρ w ro (rput ρ id p) := by
  have hext := g.extPut hf p
  have hle := g.freeLe hf
  have hle' : id ≤ rows.length := by rw [← g.len]; exact hle
  refine ⟨⟨g.os, g.tape, g.output, g.size, g.old, g.roLt, g.roNew, ?_, fun j y hy => ?_, fun i j y z hy hz hb => ?_, fun j r hr => ?_, g.ext.trans hext⟩, hext⟩
  · rw [rput_length, rput_length, g.len]
  · rw [rput_get hle] at hy
    split at hy
    · simp at hy
      rcases hp with ⟨x, rfl, hat, hro, hρ, hm⟩ | ⟨rfl, -⟩
      · cases hy; exact ⟨hm, hro⟩
      · cases hy
    · exact g.ownNew j y hy
  · rw [rput_get hle] at hy hz
    rcases hp with ⟨x, rfl, hat, hro, hρ, hm⟩ | ⟨rfl, -⟩
    · split at hy <;> split at hz
      · omega
      · simp at hy; subst hy; exact absurd hb.symm (hρ j z hz)
      · simp at hz; subst hz; exact absurd hb (hρ i y hy)
      · exact g.inj i j y z hy hz hb
    · split at hy
      · simp at hy
      · split at hz
        · simp at hz
        · exact g.inj i j y z hy hz hb
  · rw [rput_get hle'] at hr
    split at hr
    · rename_i e
      subst e
      simp at hr
      subst hr
      rcases hp with ⟨x, rfl, hat, hro, hρ, hm⟩ | ⟨rfl, hc⟩
      · exact .inl ⟨x, by rw [rput_get hle, if_pos rfl], hat.ext hext rfl⟩
      · exact .inr ⟨hc, by rw [rput_get hle, if_pos rfl]⟩
    · rename_i hne
      have := g.row j r hr
      cases r with
      | resv => simpa [RowOk, rput_get hle, hne] using this
      | dead => simpa [RowOk, rput_get hle, hne] using this
      | live ds =>
        rcases this with ⟨y, hy, hat'⟩ | hv
        · exact .inl ⟨y, by rw [rput_get hle, if_neg hne]; exact hy, hat'.ext hext rfl⟩
        · exact .inr (by rw [rput_get hle, if_neg hne]; exact hv)

theorem Good.add (g : Good c rows w ro ρ) {id : Nat} (hf : Free rows id) {x : Own} {cs : List V} (hat : RowAt w ro ρ x cs) (hro : ¬ ro x.b)
    (hρ : ∀ (id : Nat) y, ρ[id]? = some (.on y) → y.b ≠ x.b) (hm : c.may x.b ∨ c.w.heap.size ≤ x.b) :
    Good c (rput rows id (.live cs)) w ro (rput ρ id (.on x)) ∧ Ext w ro ρ w ro (rput ρ id (.on x)) :=
  g.add' hf (.inl ⟨x, rfl, hat, hro, hρ, hm⟩)

/-- Cells of a row are written. -/
theorem Good.store (g : Good c rows w ro ρ) {id : Nat} {x : Own} {cs ds : List V} (h : rows[id]? = some (.live cs)) (hx : ρ[id]? = some (.on x)) {w' : World}
    (hos : w'.os = w.os) (ht : w'.tape = w.tape) (ho : w'.output = w.output) (hs : w'.heap.size = w.heap.size) (hh : ∀ b, b ≠ x.b → w'.heap[b]? = w.heap[b]?)
    (hat : Ext w ro ρ w' ro ρ → RowAt w' ro ρ x ds) : Good c (rows.set id (.live ds)) w' ro ρ ∧ Ext w ro ρ w' ro ρ := by
  have hext : Ext w ro ρ w' ro ρ := ⟨fun _ h => h, fun b hb => hh b fun e => (g.ownNew id x hx).2 (e ▸ hb), fun id y h _ => ⟨y, h, .inr rfl⟩⟩
  have hlt : id < rows.length := (List.getElem?_eq_some_iff.1 h).1
  refine ⟨⟨hos.trans g.os, ht.trans g.tape, ho.trans g.output, by rw [hs]; exact g.size, fun b hb hm => (hh b fun e => ?_).trans (g.old b hb hm), fun b hb => by rw [hs]; exact g.roLt b hb,
    g.roNew, by simp [g.len], g.ownNew, g.inj, fun j r hr => ?_, g.ext.trans hext⟩, hext⟩
  · subst e
    rcases (g.ownNew id x hx).1 with h1 | h1
    · exact hm h1
    · omega
  · by_cases hj : id = j
    · subst hj
      rw [List.getElem?_set_self hlt] at hr
      cases hr
      exact .inl ⟨x, hx, hat hext⟩
    · rw [List.getElem?_set_ne hj] at hr
      have := g.row j r hr
      cases r with
      | resv => exact this
      | dead => exact this
      | live es =>
        rcases this with ⟨y, hy, hat'⟩ | hv
        · exact .inl ⟨y, hy, hat'.ext hext (hh y.b fun e => hj (g.inj id j x y hx hy e.symm))⟩
        · exact .inr hv

/-! ### Numbers kept for later -/

theorem Good.reserve (g : Good c rows w ro ρ) (n : Nat) :
    Good c (rows ++ List.replicate n .resv) w ro (ρ ++ List.replicate n .resv) ∧ Ext w ro ρ w ro (ρ ++ List.replicate n .resv) := by
  have hin : ∀ (j : Nat) y, y ≠ .resv → (ρ ++ List.replicate n .resv)[j]? = some y → ρ[j]? = some y := by
    intro j y hn hy
    rw [List.getElem?_append] at hy
    split at hy
    · exact hy
    · rw [List.getElem?_replicate] at hy
      split at hy
      · simp at hy; exact absurd hy.symm hn
      · simp at hy
  have hext : Ext w ro ρ w ro (ρ ++ List.replicate n .resv) := by
    refine ⟨fun _ h => h, fun _ _ => rfl, fun j y hy _ => ⟨y, ?_, .inr rfl⟩⟩
    rw [List.getElem?_append_left (List.getElem?_eq_some_iff.1 hy).1]
    exact hy
  refine ⟨⟨g.os, g.tape, g.output, g.size, g.old, g.roLt, g.roNew, by simp [g.len], fun j y hy => g.ownNew j y (hin j _ (fun h => by cases h) hy),
    fun i j y z hy hz => g.inj i j y z (hin i _ (fun h => by cases h) hy) (hin j _ (fun h => by cases h) hz), fun j r hr => ?_, g.ext.trans hext⟩, hext⟩
  rw [List.getElem?_append] at hr
  split at hr
  · rename_i hlt
    have hlt' : j < ρ.length := by rw [g.len]; exact hlt
    have := g.row j r hr
    cases r with
    | resv => simpa [RowOk, List.getElem?_append_left hlt'] using this
    | dead => simpa [RowOk, List.getElem?_append_left hlt'] using this
    | live ds =>
      rcases this with ⟨y, hy, hat⟩ | hv
      · exact .inl ⟨y, by rw [List.getElem?_append_left hlt']; exact hy, hat.ext hext rfl⟩
      · exact .inr (by rw [List.getElem?_append_left hlt']; exact hv)
  · rename_i hge
    rw [List.getElem?_replicate] at hr
    split at hr
    · rename_i hlt
      simp at hr
      subst hr
      have hge' : ρ.length ≤ j := by rw [g.len]; omega
      simp only [RowOk]
      rw [List.getElem?_append_right hge', List.getElem?_replicate, if_pos (by rw [g.len]; omega)]
    · simp at hr

end

end Go.VS
