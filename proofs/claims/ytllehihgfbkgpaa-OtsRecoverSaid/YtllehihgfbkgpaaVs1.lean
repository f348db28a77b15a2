/-
  VALUE SEMANTICS, 1: abstract values and what it means that a value of the model reads as one.
  Conditions: none; over any program.
-/
import Derived.Calls
import Derived.Orders
import Derived.WalkKit
namespace Go.VS

/-- Abstract values. `sl`, `rptr`: memory that nobody writes any more. `osl`, `ref`: memory of the call's own, by the number of its row. -/
inductive V where
  | bool (b : Bool)
  | int (k : IntKind) (n : Int)
  | str (s : List UInt8)
  | nilp
  | ref (id off : Nat)
  | rptr (cells : List V)
  | nils
  | sl (n : Nat) (cells : List V)
  | osl (id off n sz : Nat)
  | fn (f : Fn) (cap : List V)
  | nilf
  | niface
  | iface (t : TypeId) (v : V)
  | agg (cells : List V)
  | tup (vs : List V)
  | val (v : Value)
  | junk
  deriving Inhabited

/-- Where a row of the call's own lies: its block, its first cell, and the block's size. -/
structure Own where
  b : Nat
  o : Nat
  m : Nat

/-- Where a row lies: its number is kept for later; it is dead, nothing is said of it; it is empty and has no block; it lies at x. -/
inductive Pl where
  | resv
  | dead
  | virt
  | on (x : Own)

abbrev Rho := List Pl

/-- 'u reads as x' in the world w: the blocks of `ro` are read only; row i of the call's own lies at ρ[i] (none: the row is dead, nothing is said). -/
inductive Rd (w : World) (ro : Nat → Prop) : Rho → Value → V → Prop
  | bool {ρ b} : Rd w ro ρ (.bool b) (.bool b)
  | int {ρ k n} : Rd w ro ρ (.int k n) (.int k n)
  | str {ρ s} : Rd w ro ρ (.string ⟨s.toArray⟩) (.str s)
  | nilp {ρ} : Rd w ro ρ (.pointer none) .nilp
  | ref {ρ id off a y} : ρ[id]? = some y → y ≠ .resv → y ≠ .virt → (∀ x, y = .on x → a = ⟨x.b, x.o + off, none⟩) → Rd w ro ρ (.pointer (some a)) (.ref id off)
  | rptr {ρ} {a : Addr} {us : List Value} {cells} : a.spot = none → ro a.block → us.length = cells.length → (∀ i u, us[i]? = some u → w.cell? ⟨a.block, a.off + i, none⟩ = some u) →
      (∀ (i : Nat) u x, us[i]? = some u → cells[i]? = some x → Rd w ro [] u x) → Rd w ro ρ (.pointer (some a)) (.rptr cells)
  | nils {ρ} : Rd w ro ρ (.slice none 0 0) .nils
  | sl0 {ρ} : Rd w ro ρ (.slice none 0 0) (.sl 0 [])
  | slz {ρ} {a : Addr} {cap : Nat} : Rd w ro ρ (.slice (some a) 0 cap) (.sl 0 [])
  | sl {ρ} {a : Addr} {n cap : Nat} {us : List Value} {cells} : a.spot = none → ro a.block → n ≤ cap → us.length = cells.length → (∀ i u, us[i]? = some u → w.cell? ⟨a.block, a.off + i, none⟩ = some u) →
      (∀ (i : Nat) u x, us[i]? = some u → cells[i]? = some x → Rd w ro [] u x) → Rd w ro ρ (.slice (some a) n cap) (.sl n cells)
  | osl0 {ρ id off sz y} : ρ[id]? = some y → y ≠ .resv → (∀ x, y ≠ .on x) → Rd w ro ρ (.slice none 0 0) (.osl id off 0 sz)
  | osl {ρ id off n sz} {a : Addr} {cap y} : ρ[id]? = some y → y ≠ .resv → y ≠ .virt → n ≤ cap →
      (∀ x, y = .on x → a.block = x.b ∧ a.spot = none ∧ (cap = 0 ∨ a.off = x.o + off) ∧ n ≤ cap ∧ a.off + cap * sz ≤ x.m) → Rd w ro ρ (.slice (some a) n cap) (.osl id off n sz)
  | fn {ρ f} {fs us : Array Value} {cap} : fs = #[] → us.size = cap.length → (∀ (i : Nat) u x, us[i]? = some u → cap[i]? = some x → Rd w ro ρ u x) → Rd w ro ρ (.func f fs us) (.fn f cap)
  | nilf {ρ} : Rd w ro ρ .nilFunc .nilf
  | niface {ρ} : Rd w ro ρ .nilIface .niface
  | iface {ρ t u x} : Rd w ro ρ u x → Rd w ro ρ (.iface t u) (.iface t x)
  | agg {ρ} {us : Array Value} {cells} : us.size = cells.length → (∀ (i : Nat) u x, us[i]? = some u → cells[i]? = some x → Rd w ro ρ u x) → Rd w ro ρ (.agg us) (.agg cells)
  | tup {ρ} {us : Array Value} {cells} : us.size = cells.length → (∀ (i : Nat) u x, us[i]? = some u → cells[i]? = some x → Rd w ro ρ u x) → Rd w ro ρ (.tuple us) (.tup cells)
  | val {ρ u} : Rd w ro ρ u (.val u)
  | junk {ρ u} : Rd w ro ρ u .junk

/-- Lists of values, place by place. -/
def Rds (w : World) (ro : Nat → Prop) (ρ : Rho) (us : List Value) (xs : List V) : Prop :=
  us.length = xs.length ∧ ∀ (i : Nat) u x, us[i]? = some u → xs[i]? = some x → Rd w ro ρ u x

/-- The second state of knowledge extends the first: what was read only still is, unchanged; a row is where it was, or dead. -/
structure Ext (w : World) (ro : Nat → Prop) (ρ : Rho) (w' : World) (ro' : Nat → Prop) (ρ' : Rho) : Prop where
  keep : ∀ b, ro b → ro' b
  heap : ∀ b, ro b → w'.heap[b]? = w.heap[b]?
  own : ∀ (id : Nat) y, ρ[id]? = some y → y ≠ .resv → ∃ y', ρ'[id]? = some y' ∧ (y' = .dead ∨ y' = y)

theorem Ext.refl (w : World) (ro : Nat → Prop) (ρ : Rho) : Ext w ro ρ w ro ρ :=
  ⟨fun _ h => h, fun _ _ => rfl, fun _ y h _ => ⟨y, h, .inr rfl⟩⟩

theorem Ext.trans {w w' w'' : World} {ro ro' ro'' : Nat → Prop} {ρ ρ' ρ'' : Rho} (h : Ext w ro ρ w' ro' ρ') (k : Ext w' ro' ρ' w'' ro'' ρ'') :
    Ext w ro ρ w'' ro'' ρ'' :=
  ⟨fun b hb => k.keep b (h.keep b hb), fun b hb => (k.heap b (h.keep b hb)).trans (h.heap b hb), fun id y hy hn => by
    obtain ⟨y', hy', hc⟩ := h.own id y hy hn
    obtain ⟨y'', hy'', hc'⟩ := k.own id y' hy' (by rcases hc with rfl | rfl <;> first | exact hn | exact (fun h => by cases h))
    refine ⟨y'', hy'', ?_⟩
    rcases hc with rfl | rfl
    · rcases hc' with rfl | rfl <;> exact .inl rfl
    · exact hc'⟩

theorem Ext.nil {w w' : World} {ro ro' : Nat → Prop} {ρ ρ' : Rho} (h : Ext w ro ρ w' ro' ρ') : Ext w ro [] w' ro' [] :=
  ⟨h.keep, h.heap, fun id y hy _ => by simp at hy⟩

theorem cell_of_heap {w w' : World} {b o : Nat} (h : w'.heap[b]? = w.heap[b]?) : w'.cell? ⟨b, o, none⟩ = w.cell? ⟨b, o, none⟩ := by
  simp [World.cell?, h]

theorem Rd.ext {w w' : World} {ro ro' : Nat → Prop} {ρ : Rho} {u : Value} {x : V} (h : Rd w ro ρ u x) :
    ∀ {ρ' : Rho}, Ext w ro ρ w' ro' ρ' → Rd w' ro' ρ' u x := by
  induction h with
  | bool => exact fun _ => .bool
  | int => exact fun _ => .int
  | str => exact fun _ => .str
  | nilp => exact fun _ => .nilp
  | ref h1 hn hv h2 =>
    intro ρ' e
    obtain ⟨y', hy', hc⟩ := e.own _ _ h1 hn
    rcases hc with rfl | rfl
    · exact .ref hy' (fun h => by cases h) (fun h => by cases h) (fun x hx => by cases hx)
    · exact .ref hy' hn hv h2
  | rptr h1 h2 h3 h4 _ ih =>
    intro ρ' e
    exact .rptr h1 (e.keep _ h2) h3 (fun i u hu => (cell_of_heap (e.heap _ h2)).trans (h4 i u hu)) fun i u x hu hx => ih i u x hu hx e.nil
  | nils => exact fun _ => .nils
  | sl h1 h2 h3 h4 h5 _ ih =>
    intro ρ' e
    exact .sl h1 (e.keep _ h2) h3 h4 (fun i u hu => (cell_of_heap (e.heap _ h2)).trans (h5 i u hu)) fun i u x hu hx => ih i u x hu hx e.nil
  | sl0 => exact fun _ => .sl0
  | slz => exact fun _ => .slz
  | osl0 h1 hn h2 =>
    intro ρ' e
    obtain ⟨y', hy', hc⟩ := e.own _ _ h1 hn
    rcases hc with rfl | rfl
    · exact .osl0 hy' (fun h => by cases h) (fun x hx => by cases hx)
    · exact .osl0 hy' hn h2
  | osl h1 hn hv hle h2 =>
    intro ρ' e
    obtain ⟨y', hy', hc⟩ := e.own _ _ h1 hn
    rcases hc with rfl | rfl
    · exact .osl hy' (fun h => by cases h) (fun h => by cases h) hle (fun x hx => by cases hx)
    · exact .osl hy' hn hv hle h2
  | fn h0 h1 _ ih => exact fun e => .fn h0 h1 fun i u x hu hx => ih i u x hu hx e
  | nilf => exact fun _ => .nilf
  | niface => exact fun _ => .niface
  | iface _ ih => exact fun e => .iface (ih e)
  | agg h1 _ ih => exact fun e => .agg h1 fun i u x hu hx => ih i u x hu hx e
  | tup h1 _ ih => exact fun e => .tup h1 fun i u x hu hx => ih i u x hu hx e
  | val => exact fun _ => .val
  | junk => exact fun _ => .junk

theorem Rds.ext {w w' : World} {ro ro' : Nat → Prop} {ρ ρ' : Rho} {us : List Value} {xs : List V} (h : Rds w ro ρ us xs) (e : Ext w ro ρ w' ro' ρ') : Rds w' ro' ρ' us xs :=
  ⟨h.1, fun i u x hu hx => (h.2 i u x hu hx).ext e⟩

/-! ### Values without rows of the call's own -/

/-- No row of the call's own is named. -/
inductive V.Pure : V → Prop
  | bool {b} : Pure (.bool b)
  | int {k n} : Pure (.int k n)
  | str {s} : Pure (.str s)
  | nilp : Pure .nilp
  | rptr {c} : Pure (.rptr c)
  | nils : Pure .nils
  | sl {n c} : Pure (.sl n c)
  | fn {f c} : (∀ x ∈ c, Pure x) → Pure (.fn f c)
  | nilf : Pure .nilf
  | niface : Pure .niface
  | iface {t x} : Pure x → Pure (.iface t x)
  | agg {c} : (∀ x ∈ c, Pure x) → Pure (.agg c)
  | tup {c} : (∀ x ∈ c, Pure x) → Pure (.tup c)
  | val {u} : Pure (.val u)
  | junk : Pure .junk

attribute [simp] V.Pure.bool V.Pure.int V.Pure.str V.Pure.nilp V.Pure.rptr V.Pure.nils V.Pure.sl V.Pure.nilf V.Pure.niface V.Pure.val V.Pure.junk
@[simp] theorem V.pure_agg {c : List V} : (V.agg c).Pure ↔ ∀ x ∈ c, x.Pure := ⟨fun h => by cases h; assumption, .agg⟩
@[simp] theorem V.pure_tup {c : List V} : (V.tup c).Pure ↔ ∀ x ∈ c, x.Pure := ⟨fun h => by cases h; assumption, .tup⟩
@[simp] theorem V.pure_fn {f : Fn} {c : List V} : (V.fn f c).Pure ↔ ∀ x ∈ c, x.Pure := ⟨fun h => by cases h; assumption, .fn⟩
@[simp] theorem V.pure_iface {t : TypeId} {x : V} : (V.iface t x).Pure ↔ x.Pure := ⟨fun h => by cases h; assumption, .iface⟩
@[simp] theorem V.pure_ref {i o : Nat} : (V.ref i o).Pure ↔ False := ⟨fun h => (by cases h), False.elim⟩
@[simp] theorem V.pure_osl {i o n s : Nat} : (V.osl i o n s).Pure ↔ False := ⟨fun h => (by cases h), False.elim⟩

theorem mem_of_getElem? {α : Type} {l : List α} {i : Nat} {x : α} (h : l[i]? = some x) : x ∈ l := List.mem_of_getElem? h

/-- A pure value reads alike under whatever rows. -/
theorem Rd.pure {w : World} {ro : Nat → Prop} {ρ : Rho} {u : Value} {x : V} (h : Rd w ro ρ u x) : x.Pure → ∀ ρ', Rd w ro ρ' u x := by
  induction h with
  | bool => exact fun _ _ => .bool
  | int => exact fun _ _ => .int
  | str => exact fun _ _ => .str
  | nilp => exact fun _ _ => .nilp
  | ref => intro h; cases h
  | rptr h1 h2 h3 h4 h5 => exact fun _ _ => .rptr h1 h2 h3 h4 h5
  | nils => exact fun _ _ => .nils
  | sl h1 h2 h3 h4 h5 h6 => exact fun _ _ => .sl h1 h2 h3 h4 h5 h6
  | sl0 => exact fun _ _ => .sl0
  | slz => exact fun _ _ => .slz
  | osl0 => intro h; cases h
  | osl => intro h; cases h
  | fn h0 h1 _ ih => exact fun hp ρ' => .fn h0 h1 fun i u x hu hx => ih i u x hu hx (V.pure_fn.1 hp x (mem_of_getElem? hx)) ρ'
  | nilf => exact fun _ _ => .nilf
  | niface => exact fun _ _ => .niface
  | iface _ ih => exact fun hp ρ' => .iface (ih (V.pure_iface.1 hp) ρ')
  | agg h1 _ ih => exact fun hp ρ' => .agg h1 fun i u x hu hx => ih i u x hu hx (V.pure_agg.1 hp x (mem_of_getElem? hx)) ρ'
  | tup h1 _ ih => exact fun hp ρ' => .tup h1 fun i u x hu hx => ih i u x hu hx (V.pure_tup.1 hp x (mem_of_getElem? hx)) ρ'
  | val => exact fun _ _ => .val
  | junk => exact fun _ _ => .junk

/-- Only rows below L are named. -/
inductive V.Below (L : Nat) : V → Prop
  | pure {x} : x.Pure → Below L x
  | ref {i o} : i < L → Below L (.ref i o)
  | osl {i o n s} : i < L → Below L (.osl i o n s)
  | fn {f c} : (∀ x ∈ c, Below L x) → Below L (.fn f c)
  | iface {t x} : Below L x → Below L (.iface t x)
  | agg {c} : (∀ x ∈ c, Below L x) → Below L (.agg c)
  | tup {c} : (∀ x ∈ c, Below L x) → Below L (.tup c)

section
variable {L : Nat}
@[simp] theorem V.below_bool {b : Bool} : (V.bool b).Below L := .pure .bool
@[simp] theorem V.below_int {k : IntKind} {n : Int} : (V.int k n).Below L := .pure .int
@[simp] theorem V.below_str {s : List UInt8} : (V.str s).Below L := .pure .str
@[simp] theorem V.below_nilp : V.nilp.Below L := .pure .nilp
@[simp] theorem V.below_rptr {c : List V} : (V.rptr c).Below L := .pure .rptr
@[simp] theorem V.below_nils : V.nils.Below L := .pure .nils
@[simp] theorem V.below_sl {n : Nat} {c : List V} : (V.sl n c).Below L := .pure .sl
@[simp] theorem V.below_nilf : V.nilf.Below L := .pure .nilf
@[simp] theorem V.below_niface : V.niface.Below L := .pure .niface
@[simp] theorem V.below_val {u : Value} : (V.val u).Below L := .pure .val
@[simp] theorem V.below_junk : V.junk.Below L := .pure .junk
@[simp] theorem V.below_ref {i o : Nat} : (V.ref i o).Below L ↔ i < L := ⟨fun h => by cases h with | pure h => cases h | ref h => exact h, .ref⟩
@[simp] theorem V.below_osl {i o n s : Nat} : (V.osl i o n s).Below L ↔ i < L := ⟨fun h => by cases h with | pure h => cases h | osl h => exact h, .osl⟩
@[simp] theorem V.below_agg {c : List V} : (V.agg c).Below L ↔ ∀ x ∈ c, x.Below L :=
  ⟨fun h => by cases h with | pure h => exact fun x hx => .pure (V.pure_agg.1 h x hx) | agg h => exact h, .agg⟩
@[simp] theorem V.below_tup {c : List V} : (V.tup c).Below L ↔ ∀ x ∈ c, x.Below L :=
  ⟨fun h => by cases h with | pure h => exact fun x hx => .pure (V.pure_tup.1 h x hx) | tup h => exact h, .tup⟩
@[simp] theorem V.below_fn {f : Fn} {c : List V} : (V.fn f c).Below L ↔ ∀ x ∈ c, x.Below L :=
  ⟨fun h => by cases h with | pure h => exact fun x hx => .pure (V.pure_fn.1 h x hx) | fn h => exact h, .fn⟩
@[simp] theorem V.below_iface {t : TypeId} {x : V} : (V.iface t x).Below L ↔ x.Below L :=
  ⟨fun h => by cases h with | pure h => exact .pure (V.pure_iface.1 h) | iface h => exact h, .iface⟩
end

/-- Where only rows below L are named, rows from L on may be anything. -/
theorem Rd.lower {w : World} {ro : Nat → Prop} {ρ : Rho} {u : Value} {x : V} (h : Rd w ro ρ u x) :
    ∀ {L : Nat} {ρ' : Rho}, x.Below L → (∀ (id : Nat) y, id < L → ρ[id]? = some y → y ≠ .resv → ∃ y', ρ'[id]? = some y' ∧ (y' = .dead ∨ y' = y)) → Rd w ro ρ' u x := by
  induction h with
  | bool => exact fun _ _ => .bool
  | int => exact fun _ _ => .int
  | str => exact fun _ _ => .str
  | nilp => exact fun _ _ => .nilp
  | ref h1 hn hv h2 =>
    intro L ρ' hb e
    obtain ⟨y', hy', hc⟩ := e _ _ (V.below_ref.1 hb) h1 hn
    rcases hc with rfl | rfl
    · exact .ref hy' (fun h => by cases h) (fun h => by cases h) (fun x hx => by cases hx)
    · exact .ref hy' hn hv h2
  | rptr h1 h2 h3 h4 h5 => exact fun _ _ => .rptr h1 h2 h3 h4 h5
  | nils => exact fun _ _ => .nils
  | sl h1 h2 h3 h4 h5 h6 => exact fun _ _ => .sl h1 h2 h3 h4 h5 h6
  | sl0 => exact fun _ _ => .sl0
  | slz => exact fun _ _ => .slz
  | osl0 h1 hn h2 =>
    intro L ρ' hb e
    obtain ⟨y', hy', hc⟩ := e _ _ (V.below_osl.1 hb) h1 hn
    rcases hc with rfl | rfl
    · exact .osl0 hy' (fun h => by cases h) (fun x hx => by cases hx)
    · exact .osl0 hy' hn h2
  | osl h1 hn hv hle h2 =>
    intro L ρ' hb e
    obtain ⟨y', hy', hc⟩ := e _ _ (V.below_osl.1 hb) h1 hn
    rcases hc with rfl | rfl
    · exact .osl hy' (fun h => by cases h) (fun h => by cases h) hle (fun x hx => by cases hx)
    · exact .osl hy' hn hv hle h2
  | fn h0 h1 _ ih => exact fun hp e => .fn h0 h1 fun i u x hu hx => ih i u x hu hx (V.below_fn.1 hp x (mem_of_getElem? hx)) e
  | nilf => exact fun _ _ => .nilf
  | niface => exact fun _ _ => .niface
  | iface _ ih => exact fun hp e => .iface (ih (V.below_iface.1 hp) e)
  | agg h1 _ ih => exact fun hp e => .agg h1 fun i u x hu hx => ih i u x hu hx (V.below_agg.1 hp x (mem_of_getElem? hx)) e
  | tup h1 _ ih => exact fun hp e => .tup h1 fun i u x hu hx => ih i u x hu hx (V.below_tup.1 hp x (mem_of_getElem? hx)) e
  | val => exact fun _ _ => .val
  | junk => exact fun _ _ => .junk

end Go.VS
