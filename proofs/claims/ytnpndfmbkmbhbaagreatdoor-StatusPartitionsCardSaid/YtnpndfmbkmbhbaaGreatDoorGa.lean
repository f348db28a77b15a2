/-
 VALUE SEMANTICS, 1: abstract values and what it means that a value of the model reads as one.
 Conditions: none.
-/
import Derived.Calls
import Derived.Orders
import Derived.WalkKit
namespace Go.VS

inductive V where
 | bool (b : Bool)
 | int (k : IntKind) (n : Int)
 | str (s : List UInt8)
 | nilp
 | ref (id off : Nat)
 | rptr (cells : List V)
 | nils
 | sl (n : Nat) (cells : List V)
 | osl (id off n sz : Nat)
 | fn (f : Fn) (cap : List V)
 | nilf
 | niface
 | iface (t : TypeId) (v : V)
 | agg (cells : List V)
 | tup (vs : List V)
 | val (v : Value)
 | junk
 deriving Inhabited

structure Own where
 b : Nat
 o : Nat
 m : Nat

inductive Pl where
 | resv
 | dead
 | virt
 | on (x : Own)

abbrev Rho := List Pl

inductive Rd (w : World) (ro : Nat → Prop) : Rho → Value → V → Prop
 | bool {ρ b} : Rd w ro ρ (.bool b) (.bool b)
 | int {ρ k n} : Rd w ro ρ (.int k n) (.int k n)
 | str {ρ s} : Rd w ro ρ (.string ⟨s.toArray⟩) (.str s)
 | nilp {ρ} : Rd w ro ρ (.pointer none) .nilp
 | ref {ρ id off a y} : ρ[id]? = some y → y ≠ .resv → y ≠ .virt → (∀ x, y = .on x → a = ⟨x.b, x.o + off, none⟩) → Rd w ro ρ (.pointer (some a)) (.ref id off)
 | rptr {ρ} {a : Addr} {us : List Value} {cells} : a.spot = none → ro a.block → us.length = cells.length → (∀ i u, us[i]? = some u → w.cell? ⟨a.block, a.off + i, none⟩ = some u) →
   (∀ (i : Nat) u x, us[i]? = some u → cells[i]? = some x → Rd w ro [] u x) → Rd w ro ρ (.pointer (some a)) (.rptr cells)
 | nils {ρ} : Rd w ro ρ (.slice none 0 0) .nils
 | sl0 {ρ} : Rd w ro ρ (.slice none 0 0) (.sl 0 [])
 | slz {ρ} {a : Addr} {cap : Nat} : Rd w ro ρ (.slice (some a) 0 cap) (.sl 0 [])
 | sl {ρ} {a : Addr} {n cap : Nat} {us : List Value} {cells} : a.spot = none → ro a.block → n ≤ cap → us.length = cells.length → (∀ i u, us[i]? = some u → w.cell? ⟨a.block, a.off + i, none⟩ = some u) →
   (∀ (i : Nat) u x, us[i]? = some u → cells[i]? = some x → Rd w ro [] u x) → Rd w ro ρ (.slice (some a) n cap) (.sl n cells)
 | osl0 {ρ id off sz y} : ρ[id]? = some y → y ≠ .resv → (∀ x, y ≠ .on x) → Rd w ro ρ (.slice none 0 0) (.osl id off 0 sz)
 | osl {ρ id off n sz} {a : Addr} {cap y} : ρ[id]? = some y → y ≠ .resv → y ≠ .virt → n ≤ cap →
   (∀ x, y = .on x → a.block = x.b ∧ a.spot = none ∧ (cap = 0 ∨ a.off = x.o + off) ∧ n ≤ cap ∧ a.off + cap * sz ≤ x.m) → Rd w ro ρ (.slice (some a) n cap) (.osl id off n sz)
 | fn {ρ f} {fs us : Array Value} {cap} : fs = #[] → us.size = cap.length → (∀ (i : Nat) u x, us[i]? = some u → cap[i]? = some x → Rd w ro ρ u x) → Rd w ro ρ (.func f fs us) (.fn f cap)
 | nilf {ρ} : Rd w ro ρ .nilFunc .nilf
 | niface {ρ} : Rd w ro ρ .nilIface .niface
 | iface {ρ t u x} : Rd w ro ρ u x → Rd w ro ρ (.iface t u) (.iface t x)
 | agg {ρ} {us : Array Value} {cells} : us.size = cells.length → (∀ (i : Nat) u x, us[i]? = some u → cells[i]? = some x → Rd w ro ρ u x) → Rd w ro ρ (.agg us) (.agg cells)
 | tup {ρ} {us : Array Value} {cells} : us.size = cells.length → (∀ (i : Nat) u x, us[i]? = some u → cells[i]? = some x → Rd w ro ρ u x) → Rd w ro ρ (.tuple us) (.tup cells)
 | val {ρ u} : Rd w ro ρ u (.val u)
 | junk {ρ u} : Rd w ro ρ u .junk

def Rds (w : World) (ro : Nat → Prop) (ρ : Rho) (us : List Value) (xs : List V) : Prop :=
 us.length = xs.length ∧ ∀ (i : Nat) u x, us[i]? = some u → xs[i]? = some x → Rd w ro ρ u x

structure Ext (w : World) (ro : Nat → Prop) (ρ : Rho) (w' : World) (ro' : Nat → Prop) (ρ' : Rho) : Prop where
 keep : ∀ b, ro b → ro' b
 heap : ∀ b, ro b → w'.heap[b]? = w.heap[b]?
 own : ∀ (id : Nat) y, ρ[id]? = some y → y ≠ .resv → ∃ y', ρ'[id]? = some y' ∧ (y' = .dead ∨ y' = y)

theorem Ext.refl (w : World) (ro : Nat → Prop) (ρ : Rho) : Ext w ro ρ w ro ρ :=
 ⟨fun _ h => h, fun _ _ => rfl, fun _ y h _ => ⟨y, h, .inr rfl⟩⟩

theorem Ext.trans {w w' w'' : World} {ro ro' ro'' : Nat → Prop} {ρ ρ' ρ'' : Rho} (h : Ext w ro ρ w' ro' ρ') (k : Ext w' ro' ρ' w'' ro'' ρ'') :
  Ext w ro ρ w'' ro'' ρ'' :=
 ⟨fun b hb => k.keep b (h.keep b hb), fun b hb => (k.heap b (h.keep b hb)).trans (h.heap b hb), fun id y hy hn => by
  obtain ⟨y', hy', hc⟩ := h.own id y hy hn
  obtain ⟨y'', hy'', hc'⟩ := k.own id y' hy' (by rcases hc with rfl | rfl <;> first | exact hn | exact (fun h => by cases h))
  refine ⟨y'', hy'', ?_⟩
  rcases hc with rfl | rfl
  ·rcases hc' with rfl | rfl <;> exact .inl rfl
  ·exact hc'⟩

theorem Ext.nil {w w' : World} {ro ro' : Nat → Prop} {ρ ρ' : Rho} (h : Ext w ro ρ w' ro' ρ') : Ext w ro [] w' ro' [] :=
 ⟨h.keep, h.heap, fun id y hy _ => by simp at hy⟩

theorem cell_of_heap {w w' : World} {b o : Nat} (h : w'.heap[b]? = w.heap[b]?) : w'.cell? ⟨b, o, none⟩ = w.cell? ⟨b, o, none⟩ := by
 simp [World.cell?, h]

theorem Rd.ext {w w' : World} {ro ro' : Nat → Prop} {ρ : Rho} {u : Value} {x : V} (h : Rd w ro ρ u x) :
  ∀ {ρ' : Rho}, Ext w ro ρ w' ro' ρ' → Rd w' ro' ρ' u x := by
 induction h with
 | bool => exact fun _ => .bool
 | int => exact fun _ => .int
 | str => exact fun _ => .str
 | nilp => exact fun _ => .nilp
 | ref h1 hn hv h2 =>
  intro ρ' e
  obtain ⟨y', hy', hc⟩ := e.own _ _ h1 hn
  rcases hc with rfl | rfl
  ·exact .ref hy' (fun h => by cases h) (fun h => by cases h) (fun x hx => by cases hx)
  ·exact .ref hy' hn hv h2
 | rptr h1 h2 h3 h4 _ ih =>
  intro ρ' e
  exact .rptr h1 (e.keep _ h2) h3 (fun i u hu => (cell_of_heap (e.heap _ h2)).trans (h4 i u hu)) fun i u x hu hx => ih i u x hu hx e.nil
 | nils => exact fun _ => .nils
 | sl h1 h2 h3 h4 h5 _ ih =>
  intro ρ' e
  exact .sl h1 (e.keep _ h2) h3 h4 (fun i u hu => (cell_of_heap (e.heap _ h2)).trans (h5 i u hu)) fun i u x hu hx => ih i u x hu hx e.nil
 | sl0 => exact fun _ => .sl0
 | slz => exact fun _ => .slz
 | osl0 h1 hn h2 =>
  intro ρ' e
  obtain ⟨y', hy', hc⟩ := e.own _ _ h1 hn
  rcases hc with rfl | rfl
  ·exact .osl0 hy' (fun h => by cases h) (fun x hx => by cases hx)
  ·exact .osl0 hy' hn h2
 | osl h1 hn hv hle h2 =>
  intro ρ' e
  obtain ⟨y', hy', hc⟩ := e.own _ _ h1 hn
  rcases hc with rfl | rfl
  ·exact .osl hy' (fun h => by cases h) (fun h => by cases h) hle (fun x hx => by cases hx)
  ·exact .osl hy' hn hv hle h2
 | fn h0 h1 _ ih => exact fun e => .fn h0 h1 fun i u x hu hx => ih i u x hu hx e
 | nilf => exact fun _ => .nilf
 | niface => exact fun _ => .niface
 | iface _ ih => exact fun e => .iface (ih e)
 | agg h1 _ ih => exact fun e => .agg h1 fun i u x hu hx => ih i u x hu hx e
 | tup h1 _ ih => exact fun e => .tup h1 fun i u x hu hx => ih i u x hu hx e
 | val => exact fun _ => .val
 | junk => exact fun _ => .junk

theorem Rds.ext {w w' : World} {ro ro' : Nat → Prop} {ρ ρ' : Rho} {us : List Value} {xs : List V} (h : Rds w ro ρ us xs) (e : Ext w ro ρ w' ro' ρ') : Rds w' ro' ρ' us xs :=
 ⟨h.1, fun i u x hu hx => (h.2 i u x hu hx).ext e⟩


inductive V.Pure : V → Prop
 | bool {b} : Pure (.bool b)
 | int {k n} : Pure (.int k n)
 | str {s} : Pure (.str s)
 | nilp : Pure .nilp
 | rptr {c} : Pure (.rptr c)
 | nils : Pure .nils
 | sl {n c} : Pure (.sl n c)
 | fn {f c} : (∀ x ∈ c, Pure x) → Pure (.fn f c)
 | nilf : Pure .nilf
 | niface : Pure .niface
 | iface {t x} : Pure x → Pure (.iface t x)
 | agg {c} : (∀ x ∈ c, Pure x) → Pure (.agg c)
 | tup {c} : (∀ x ∈ c, Pure x) → Pure (.tup c)
 | val {u} : Pure (.val u)
 | junk : Pure .junk

attribute [simp] V.Pure.bool V.Pure.int V.Pure.str V.Pure.nilp V.Pure.rptr V.Pure.nils V.Pure.sl V.Pure.nilf V.Pure.niface V.Pure.val V.Pure.junk
@[simp] theorem V.pure_agg {c : List V} : (V.agg c).Pure ↔ ∀ x ∈ c, x.Pure := ⟨fun h => by cases h; assumption, .agg⟩
@[simp] theorem V.pure_tup {c : List V} : (V.tup c).Pure ↔ ∀ x ∈ c, x.Pure := ⟨fun h => by cases h; assumption, .tup⟩
@[simp] theorem V.pure_fn {f : Fn} {c : List V} : (V.fn f c).Pure ↔ ∀ x ∈ c, x.Pure := ⟨fun h => by cases h; assumption, .fn⟩
@[simp] theorem V.pure_iface {t : TypeId} {x : V} : (V.iface t x).Pure ↔ x.Pure := ⟨fun h => by cases h; assumption, .iface⟩
@[simp] theorem V.pure_ref {i o : Nat} : (V.ref i o).Pure ↔ False := ⟨fun h => (by cases h), False.elim⟩
@[simp] theorem V.pure_osl {i o n s : Nat} : (V.osl i o n s).Pure ↔ False := ⟨fun h => (by cases h), False.elim⟩

theorem mem_of_getElem? {α : Type} {l : List α} {i : Nat} {x : α} (h : l[i]? = some x) : x ∈ l := List.mem_of_getElem? h

theorem Rd.pure {w : World} {ro : Nat → Prop} {ρ : Rho} {u : Value} {x : V} (h : Rd w ro ρ u x) : x.Pure → ∀ ρ', Rd w ro ρ' u x := by
 induction h with
 | bool => exact fun _ _ => .bool
 | int => exact fun _ _ => .int
 | str => exact fun _ _ => .str
 | nilp => exact fun _ _ => .nilp
 | ref => intro h; cases h
 | rptr h1 h2 h3 h4 h5 => exact fun _ _ => .rptr h1 h2 h3 h4 h5
 | nils => exact fun _ _ => .nils
 | sl h1 h2 h3 h4 h5 h6 => exact fun _ _ => .sl h1 h2 h3 h4 h5 h6
 | sl0 => exact fun _ _ => .sl0
 | slz => exact fun _ _ => .slz
 | osl0 => intro h; cases h
 | osl => intro h; cases h
 | fn h0 h1 _ ih => exact fun hp ρ' => .fn h0 h1 fun i u x hu hx => ih i u x hu hx (V.pure_fn.1 hp x (mem_of_getElem? hx)) ρ'
 | nilf => exact fun _ _ => .nilf
 | niface => exact fun _ _ => .niface
 | iface _ ih => exact fun hp ρ' => .iface (ih (V.pure_iface.1 hp) ρ')
 | agg h1 _ ih => exact fun hp ρ' => .agg h1 fun i u x hu hx => ih i u x hu hx (V.pure_agg.1 hp x (mem_of_getElem? hx)) ρ'
 | tup h1 _ ih => exact fun hp ρ' => .tup h1 fun i u x hu hx => ih i u x hu hx (V.pure_tup.1 hp x (mem_of_getElem? hx)) ρ'
 | val => exact fun _ _ => .val
 | junk => exact fun _ _ => .junk

inductive V.Below (L : Nat) : V → Prop
 | pure {x} : x.Pure → Below L x
 | ref {i o} : i < L → Below L (.ref i o)
 | osl {i o n s} : i < L → Below L (.osl i o n s)
 | fn {f c} : (∀ x ∈ c, Below L x) → Below L (.fn f c)
 | iface {t x} : Below L x → Below L (.iface t x)
 | agg {c} : (∀ x ∈ c, Below L x) → Below L (.agg c)
 | tup {c} : (∀ x ∈ c, Below L x) → Below L (.tup c)

section
variable {L : Nat}
@[simp] theorem V.below_bool {b : Bool} : (V.bool b).Below L := .pure .bool
@[simp] theorem V.below_int {k : IntKind} {n : Int} : (V.int k n).Below L := .pure .int
@[simp] theorem V.below_str {s : List UInt8} : (V.str s).Below L := .pure .str
@[simp] theorem V.below_nilp : V.nilp.Below L := .pure .nilp
@[simp] theorem V.below_rptr {c : List V} : (V.rptr c).Below L := .pure .rptr
@[simp] theorem V.below_nils : V.nils.Below L := .pure .nils
@[simp] theorem V.below_sl {n : Nat} {c : List V} : (V.sl n c).Below L := .pure .sl
@[simp] theorem V.below_nilf : V.nilf.Below L := .pure .nilf
@[simp] theorem V.below_niface : V.niface.Below L := .pure .niface
@[simp] theorem V.below_val {u : Value} : (V.val u).Below L := .pure .val
@[simp] theorem V.below_junk : V.junk.Below L := .pure .junk
@[simp] theorem V.below_ref {i o : Nat} : (V.ref i o).Below L ↔ i < L := ⟨fun h => by cases h with | pure h => cases h | ref h => exact h, .ref⟩
@[simp] theorem V.below_osl {i o n s : Nat} : (V.osl i o n s).Below L ↔ i < L := ⟨fun h => by cases h with | pure h => cases h | osl h => exact h, .osl⟩
@[simp] theorem V.below_agg {c : List V} : (V.agg c).Below L ↔ ∀ x ∈ c, x.Below L :=
 ⟨fun h => by cases h with | pure h => exact fun x hx => .pure (V.pure_agg.1 h x hx) | agg h => exact h, .agg⟩
@[simp] theorem V.below_tup {c : List V} : (V.tup c).Below L ↔ ∀ x ∈ c, x.Below L :=
 ⟨fun h => by cases h with | pure h => exact fun x hx => .pure (V.pure_tup.1 h x hx) | tup h => exact h, .tup⟩
@[simp] theorem V.below_fn {f : Fn} {c : List V} : (V.fn f c).Below L ↔ ∀ x ∈ c, x.Below L :=
 ⟨fun h => by cases h with | pure h => exact fun x hx => .pure (V.pure_fn.1 h x hx) | fn h => exact h, .fn⟩
@[simp] theorem V.below_iface {t : TypeId} {x : V} : (V.iface t x).Below L ↔ x.Below L :=
 ⟨fun h => by cases h with | pure h => exact .pure (V.pure_iface.1 h) | iface h => exact h, .iface⟩
end

end Go.VS
namespace Go.VS

inductive Row where
 | resv
 | dead
 | live (cs : List V)
 deriving Inhabited

structure Ctx where
 w : World
 ro : Nat → Prop
 ρ : Rho

def Ctx.may (c : Ctx) (b : Nat) : Prop := ∃ (id : Nat) (x : Own), c.ρ[id]? = some (.on x) ∧ x.b = b

def RowAt (w : World) (ro : Nat → Prop) (ρ : Rho) (x : Own) (cs : List V) : Prop :=
 ∃ C e fr, w.heap[x.b]? = some (.cells C e fr) ∧ C.size = x.m ∧ (∀ i, i < x.m → ¬ (fr.1 ≤ i ∧ i < fr.2)) ∧ x.o + cs.length ≤ x.m ∧
  ∀ (i : Nat) v, cs[i]? = some v → ∃ u, C[x.o + i]? = some u ∧ Rd w ro ρ u v

def RowOk (w : World) (ro : Nat → Prop) (ρ : Rho) (id : Nat) : Row → Prop
 | .resv => ρ[id]? = some .resv
 | .dead => ρ[id]? = some .dead
 | .live cs => (∃ x, ρ[id]? = some (.on x) ∧ RowAt w ro ρ x cs) ∨ (cs = [] ∧ ρ[id]? = some .virt)

structure Good (c : Ctx) (rows : List Row) (w : World) (ro : Nat → Prop) (ρ : Rho) : Prop where
 os : w.os = c.w.os
 tape : w.tape = c.w.tape
 output : w.output = c.w.output
 size : c.w.heap.size ≤ w.heap.size
 old : ∀ b, b < c.w.heap.size → ¬ c.may b → w.heap[b]? = c.w.heap[b]?
 roLt : ∀ b, ro b → b < w.heap.size
 roNew : ∀ b, ro b → c.ro b ∨ c.may b ∨ c.w.heap.size ≤ b
 len : ρ.length = rows.length
 ownNew : ∀ (id : Nat) x, ρ[id]? = some (.on x) → (c.may x.b ∨ c.w.heap.size ≤ x.b) ∧ ¬ ro x.b
 inj : ∀ (i j : Nat) x y, ρ[i]? = some (.on x) → ρ[j]? = some (.on y) → x.b = y.b → i = j
 row : ∀ (id : Nat) r, rows[id]? = some r → RowOk w ro ρ id r
 ext : Ext c.w c.ro c.ρ w ro ρ

theorem RowAt.ext {w w' : World} {ro ro' : Nat → Prop} {ρ ρ' : Rho} {x : Own} {cs : List V} (h : RowAt w ro ρ x cs) (e : Ext w ro ρ w' ro' ρ')
  (hb : w'.heap[x.b]? = w.heap[x.b]?) : RowAt w' ro' ρ' x cs := by
 obtain ⟨C, t, fr, h1, h2, h3, h4, h5⟩ := h
 refine ⟨C, t, fr, hb.trans h1, h2, h3, h4, fun i v hv => ?_⟩
 obtain ⟨u, hu, hr⟩ := h5 i v hv
 exact ⟨u, hu, hr.ext e⟩

section
variable {c : Ctx} {rows : List Row} {w : World} {ro : Nat → Prop} {ρ : Rho}

theorem Good.alive (g : Good c rows w ro ρ) {id : Nat} {x : Own} (h : ρ[id]? = some (.on x)) : ∃ cs, rows[id]? = some (.live cs) ∧ RowAt w ro ρ x cs := by
 have hlt : id < ρ.length := (List.getElem?_eq_some_iff.1 h).1
 have hlt' : id < rows.length := by rw [← g.len]; exact hlt
 obtain ⟨r, hr⟩ : ∃ r, rows[id]? = some r := ⟨rows[id], by simp [hlt']⟩
 have := g.row id r hr
 cases r with
 | resv => simp [RowOk, h] at this
 | dead => simp [RowOk, h] at this
 | live cs =>
  rcases this with ⟨y, hy, hat⟩ | ⟨-, hv⟩
  ·rw [h] at hy
   simp at hy
   subst hy
   exact ⟨cs, hr, hat⟩
  ·rw [h] at hv; simp at hv

theorem Good.ownLt (g : Good c rows w ro ρ) {id : Nat} {x : Own} (h : ρ[id]? = some (.on x)) : x.b < w.heap.size := by
 obtain ⟨cs, _, C, e, fr, hb, _⟩ := g.alive h
 exact (Array.getElem?_eq_some_iff.1 hb).1

theorem Good.live (g : Good c rows w ro ρ) {id : Nat} {cs : List V} (h : rows[id]? = some (.live cs)) : ∃ y, ρ[id]? = some y ∧ y ≠ .resv ∧ y ≠ .dead ∧
  (∀ x, y = .on x → RowAt w ro ρ x cs) ∧ (y = .virt → cs = []) := by
 rcases g.row id _ h with ⟨x, hx, hat⟩ | ⟨hc, hv⟩
 ·exact ⟨_, hx, (fun h => by cases h), (fun h => by cases h), (fun y hy => by cases hy; exact hat), (fun h => by cases h)⟩
 ·exact ⟨_, hv, (fun h => by cases h), (fun h => by cases h), (fun y hy => by cases hy), fun _ => hc⟩

theorem Good.world (g : Good c rows w ro ρ) {w' : World} (hos : w'.os = w.os) (ht : w'.tape = w.tape) (ho : w'.output = w.output) (hs : w.heap.size ≤ w'.heap.size)
  (hh : ∀ b, b < w.heap.size → (ro b ∨ (∃ (id : Nat) (x : Own), ρ[id]? = some (.on x) ∧ x.b = b) ∨ (b < c.w.heap.size ∧ ¬ c.may b)) → w'.heap[b]? = w.heap[b]?) :
  Good c rows w' ro ρ ∧ Ext w ro ρ w' ro ρ := by
 have hext : Ext w ro ρ w' ro ρ := ⟨fun _ h => h, fun b hb => hh b (g.roLt b hb) (.inl hb), fun id y h _ => ⟨y, h, .inr rfl⟩⟩
 refine ⟨⟨hos.trans g.os, ht.trans g.tape, ho.trans g.output, Nat.le_trans g.size hs, fun b hb hm => (hh b (Nat.lt_of_lt_of_le hb g.size) (.inr (.inr ⟨hb, hm⟩))).trans (g.old b hb hm),
  fun b hb => Nat.lt_of_lt_of_le (g.roLt b hb) hs, g.roNew, g.len, g.ownNew, g.inj, fun id r hr => ?_, g.ext.trans hext⟩, hext⟩
 have := g.row id r hr
 cases r with
 | resv => exact this
 | dead => exact this
 | live cs =>
  rcases this with ⟨x, hx, hat⟩ | hv
  ·exact .inl ⟨x, hx, hat.ext hext (hh x.b (g.ownLt hx) (.inr (.inl ⟨id, x, hx, rfl⟩)))⟩
  ·exact .inr hv

theorem Good.drew (g : Good c rows w ro ρ) (n : Nat) : Good c rows { w with drawn := n } ro ρ ∧ Ext w ro ρ { w with drawn := n } ro ρ :=
 g.world rfl rfl rfl (Nat.le_refl _) fun _ _ _ => rfl

theorem Good.push (g : Good c rows w ro ρ) (o : Obj) : Good c rows { w with heap := w.heap.push o } ro ρ ∧ Ext w ro ρ { w with heap := w.heap.push o } ro ρ :=
 g.world rfl rfl rfl (by simp) fun b hb _ => by
  show (w.heap.push o)[b]? = _
  rw [Array.getElem?_push, if_neg (by omega)]

theorem Good.loose (g : Good c rows w ro ρ) {w' : World} (k : Nat) (hos : w'.os = w.os) (ht : w'.tape = w.tape) (ho : w'.output = w.output) (hs : w'.heap.size = w.heap.size)
  (hh : ∀ b, b ≠ k → w'.heap[b]? = w.heap[b]?) (hro : ¬ ro k) (hρ : ∀ (id : Nat) x, ρ[id]? = some (.on x) → x.b ≠ k) (hk : c.may k ∨ c.w.heap.size ≤ k) :
  Good c rows w' ro ρ ∧ Ext w ro ρ w' ro ρ :=
 g.world hos ht ho (by omega) fun b _ h => hh b fun e => by
  subst e
  rcases h with h | ⟨id, x, hx, hb⟩ | ⟨h1, h2⟩
  ·exact hro h
  ·exact hρ id x hx hb
  ·rcases hk with hk | hk
   ·exact h2 hk
   ·omega

theorem Good.kill (g : Good c rows w ro ρ) {id : Nat} {cs : List V} (h : rows[id]? = some (.live cs)) :
  Good c (rows.set id .dead) w ro (ρ.set id .dead) ∧ Ext w ro ρ w ro (ρ.set id .dead) := by
 obtain ⟨y0, hy0, -⟩ := g.live h
 have hlt : id < ρ.length := (List.getElem?_eq_some_iff.1 hy0).1
 have hin : ∀ (j : Nat) y, (ρ.set id .dead)[j]? = some (.on y) → ρ[j]? = some (.on y) := by
  intro j y hy
  rw [List.getElem?_set] at hy
  split at hy
  ·simp at hy
  ·exact hy
 have hext : Ext w ro ρ w ro (ρ.set id .dead) := by
  refine ⟨fun _ h => h, fun _ _ => rfl, fun j y hy _ => ?_⟩
  by_cases hj : id = j
  ·subst hj
   exact ⟨.dead, by simp [hlt], .inl rfl⟩
  ·exact ⟨y, by rw [List.getElem?_set_ne hj]; exact hy, .inr rfl⟩
 refine ⟨⟨g.os, g.tape, g.output, g.size, g.old, g.roLt, g.roNew, by simp [g.len], fun j y hy => g.ownNew j y (hin j y hy), fun i j y z hy hz => g.inj i j y z (hin i y hy) (hin j z hz),
  fun j r hr => ?_, g.ext.trans hext⟩, hext⟩
 by_cases hj : id = j
 ·subst hj
  rw [List.getElem?_set_self (by rw [← g.len]; exact hlt)] at hr
  cases hr
  simp [RowOk, hlt]
 ·rw [List.getElem?_set_ne hj] at hr
  have := g.row j r hr
  cases r with
  | resv => simpa [RowOk, List.getElem?_set_ne hj] using this
  | dead => simpa [RowOk, List.getElem?_set_ne hj] using this
  | live ds =>
   rcases this with ⟨y, hy, hat⟩ | hv
   ·exact .inl ⟨y, by rw [List.getElem?_set_ne hj]; exact hy, hat.ext hext rfl⟩
   ·exact .inr (by rw [List.getElem?_set_ne hj]; exact hv)

theorem Good.roAdd (g : Good c rows w ro ρ) {k : Nat} (hk : k < w.heap.size) (hρ : ∀ (id : Nat) x, ρ[id]? = some (.on x) → x.b ≠ k) (hm : c.may k ∨ c.w.heap.size ≤ k) :
  Good c rows w (fun b => ro b ∨ b = k) ρ ∧ Ext w ro ρ w (fun b => ro b ∨ b = k) ρ := by
 have hext : Ext w ro ρ w (fun b => ro b ∨ b = k) ρ := ⟨fun _ h => .inl h, fun _ _ => rfl, fun id y h _ => ⟨y, h, .inr rfl⟩⟩
 refine ⟨⟨g.os, g.tape, g.output, g.size, g.old, fun b hb => ?_, fun b hb => ?_, g.len, fun j y hy => ⟨(g.ownNew j y hy).1, fun h => ?_⟩, g.inj, fun j r hr => ?_, g.ext.trans hext⟩, hext⟩
 ·rcases hb with hb | rfl
  ·exact g.roLt b hb
  ·exact hk
 ·rcases hb with hb | rfl
  ·exact g.roNew b hb
  ·exact .inr hm
 ·rcases h with h | h
  ·exact (g.ownNew j y hy).2 h
  ·exact hρ j y hy h
 ·have := g.row j r hr
  cases r with
  | resv => exact this
  | dead => exact this
  | live ds =>
   rcases this with ⟨y, hy, hat⟩ | hv
   ·exact .inl ⟨y, hy, hat.ext hext rfl⟩
   ·exact .inr hv

def rput {α : Type} (l : List α) (id : Nat) (x : α) : List α := if id = l.length then l ++ [x] else l.set id x

theorem rput_get {α : Type} {l : List α} {id : Nat} {x : α} (h : id ≤ l.length) (j : Nat) : (rput l id x)[j]? = if j = id then some x else l[j]? := by
 unfold rput
 split
 ·rename_i e
  subst e
  rw [List.getElem?_append]
  by_cases hj : j < l.length
  ·rw [if_pos hj, if_neg (by omega)]
  ·rw [if_neg hj]
   by_cases hj' : j = l.length
   ·subst hj'; simp
   ·rw [if_neg hj', List.getElem?_eq_none (by simp; omega), List.getElem?_eq_none (by omega)]
 ·rename_i e
  rw [List.getElem?_set]
  by_cases hj : id = j
  ·subst hj; simp; omega
  ·rw [if_neg hj, if_neg (fun h => hj h.symm)]

theorem rput_length {α : Type} {l : List α} {id : Nat} {x : α} : (rput l id x).length = if id = l.length then l.length + 1 else l.length := by
 unfold rput
 split <;> simp

def Free (rows : List Row) (id : Nat) : Prop := id = rows.length ∨ rows[id]? = some .resv

theorem Good.freeLe (g : Good c rows w ro ρ) {id : Nat} (hf : Free rows id) : id ≤ ρ.length := by
 rcases hf with hf | hf
 ·rw [g.len]; omega
 ·have := (List.getElem?_eq_some_iff.1 hf).1
  rw [g.len]; omega

theorem Good.extPut (g : Good c rows w ro ρ) {id : Nat} (hf : Free rows id) (x : Pl) : Ext w ro ρ w ro (rput ρ id x) := by
 refine ⟨fun _ h => h, fun _ _ => rfl, fun j y hy hn => ⟨y, ?_, .inr rfl⟩⟩
 rw [rput_get (g.freeLe hf), if_neg, hy]
 rintro rfl
 rcases hf with hf | hf
 ·have := (List.getElem?_eq_some_iff.1 hy).1
  rw [g.len] at this; omega
 ·have := g.row j _ hf
  simp [RowOk, hy] at this
  exact hn this

theorem Good.add' (g : Good c rows w ro ρ) {id : Nat} (hf : Free rows id) {p : Pl} {cs : List V} (hp : (∃ x, p = .on x ∧ RowAt w ro ρ x cs ∧ ¬ ro x.b ∧
  (∀ (id : Nat) y, ρ[id]? = some (.on y) → y.b ≠ x.b) ∧ (c.may x.b ∨ c.w.heap.size ≤ x.b)) ∨ (p = .virt ∧ cs = [])) :
  Good c (rput rows id (.live cs)) w ro (rput ρ id p) ∧ Ext w ro ρ w ro (rput ρ id p) := by
 have hext := g.extPut hf p
 have hle := g.freeLe hf
 have hle' : id ≤ rows.length := by rw [← g.len]; exact hle
 refine ⟨⟨g.os, g.tape, g.output, g.size, g.old, g.roLt, g.roNew, ?_, fun j y hy => ?_, fun i j y z hy hz hb => ?_, fun j r hr => ?_, g.ext.trans hext⟩, hext⟩
 ·rw [rput_length, rput_length, g.len]
 ·rw [rput_get hle] at hy
  split at hy
  ·simp at hy
   rcases hp with ⟨x, rfl, hat, hro, hρ, hm⟩ | ⟨rfl, -⟩
   ·cases hy; exact ⟨hm, hro⟩
   ·cases hy
  ·exact g.ownNew j y hy
 ·rw [rput_get hle] at hy hz
  rcases hp with ⟨x, rfl, hat, hro, hρ, hm⟩ | ⟨rfl, -⟩
  ·split at hy <;> split at hz
   ·omega
   ·simp at hy; subst hy; exact absurd hb.symm (hρ j z hz)
   ·simp at hz; subst hz; exact absurd hb (hρ i y hy)
   ·exact g.inj i j y z hy hz hb
  ·split at hy
   ·simp at hy
   ·split at hz
    ·simp at hz
    ·exact g.inj i j y z hy hz hb
 ·rw [rput_get hle'] at hr
  split at hr
  ·rename_i e
   subst e
   simp at hr
   subst hr
   rcases hp with ⟨x, rfl, hat, hro, hρ, hm⟩ | ⟨rfl, hc⟩
   ·exact .inl ⟨x, by rw [rput_get hle, if_pos rfl], hat.ext hext rfl⟩
   ·exact .inr ⟨hc, by rw [rput_get hle, if_pos rfl]⟩
  ·rename_i hne
   have := g.row j r hr
   cases r with
   | resv => simpa [RowOk, rput_get hle, hne] using this
   | dead => simpa [RowOk, rput_get hle, hne] using this
   | live ds =>
    rcases this with ⟨y, hy, hat'⟩ | hv
    ·exact .inl ⟨y, by rw [rput_get hle, if_neg hne]; exact hy, hat'.ext hext rfl⟩
    ·exact .inr (by rw [rput_get hle, if_neg hne]; exact hv)

theorem Good.add (g : Good c rows w ro ρ) {id : Nat} (hf : Free rows id) {x : Own} {cs : List V} (hat : RowAt w ro ρ x cs) (hro : ¬ ro x.b)
  (hρ : ∀ (id : Nat) y, ρ[id]? = some (.on y) → y.b ≠ x.b) (hm : c.may x.b ∨ c.w.heap.size ≤ x.b) :
  Good c (rput rows id (.live cs)) w ro (rput ρ id (.on x)) ∧ Ext w ro ρ w ro (rput ρ id (.on x)) :=
 g.add' hf (.inl ⟨x, rfl, hat, hro, hρ, hm⟩)

theorem Good.store (g : Good c rows w ro ρ) {id : Nat} {x : Own} {cs ds : List V} (h : rows[id]? = some (.live cs)) (hx : ρ[id]? = some (.on x)) {w' : World}
  (hos : w'.os = w.os) (ht : w'.tape = w.tape) (ho : w'.output = w.output) (hs : w'.heap.size = w.heap.size) (hh : ∀ b, b ≠ x.b → w'.heap[b]? = w.heap[b]?)
  (hat : Ext w ro ρ w' ro ρ → RowAt w' ro ρ x ds) : Good c (rows.set id (.live ds)) w' ro ρ ∧ Ext w ro ρ w' ro ρ := by
 have hext : Ext w ro ρ w' ro ρ := ⟨fun _ h => h, fun b hb => hh b fun e => (g.ownNew id x hx).2 (e ▸ hb), fun id y h _ => ⟨y, h, .inr rfl⟩⟩
 have hlt : id < rows.length := (List.getElem?_eq_some_iff.1 h).1
 refine ⟨⟨hos.trans g.os, ht.trans g.tape, ho.trans g.output, by rw [hs]; exact g.size, fun b hb hm => (hh b fun e => ?_).trans (g.old b hb hm), fun b hb => by rw [hs]; exact g.roLt b hb,
  g.roNew, by simp [g.len], g.ownNew, g.inj, fun j r hr => ?_, g.ext.trans hext⟩, hext⟩
 ·subst e
  rcases (g.ownNew id x hx).1 with h1 | h1
  ·exact hm h1
  ·omega
 ·by_cases hj : id = j
  ·subst hj
   rw [List.getElem?_set_self hlt] at hr
   cases hr
   exact .inl ⟨x, hx, hat hext⟩
  ·rw [List.getElem?_set_ne hj] at hr
   have := g.row j r hr
   cases r with
   | resv => exact this
   | dead => exact this
   | live es =>
    rcases this with ⟨y, hy, hat'⟩ | hv
    ·exact .inl ⟨y, hy, hat'.ext hext (hh y.b fun e => hj (g.inj id j x y hx hy e.symm))⟩
    ·exact .inr hv


theorem Good.reserve (g : Good c rows w ro ρ) (n : Nat) :
  Good c (rows ++ List.replicate n .resv) w ro (ρ ++ List.replicate n .resv) ∧ Ext w ro ρ w ro (ρ ++ List.replicate n .resv) := by
 have hin : ∀ (j : Nat) y, y ≠ .resv → (ρ ++ List.replicate n .resv)[j]? = some y → ρ[j]? = some y := by
  intro j y hn hy
  rw [List.getElem?_append] at hy
  split at hy
  ·exact hy
  ·rw [List.getElem?_replicate] at hy
   split at hy
   ·simp at hy; exact absurd hy.symm hn
   ·simp at hy
 have hext : Ext w ro ρ w ro (ρ ++ List.replicate n .resv) := by
  refine ⟨fun _ h => h, fun _ _ => rfl, fun j y hy _ => ⟨y, ?_, .inr rfl⟩⟩
  rw [List.getElem?_append_left (List.getElem?_eq_some_iff.1 hy).1]
  exact hy
 refine ⟨⟨g.os, g.tape, g.output, g.size, g.old, g.roLt, g.roNew, by simp [g.len], fun j y hy => g.ownNew j y (hin j _ (fun h => by cases h) hy),
  fun i j y z hy hz => g.inj i j y z (hin i _ (fun h => by cases h) hy) (hin j _ (fun h => by cases h) hz), fun j r hr => ?_, g.ext.trans hext⟩, hext⟩
 rw [List.getElem?_append] at hr
 split at hr
 ·rename_i hlt
  have hlt' : j < ρ.length := by rw [g.len]; exact hlt
  have := g.row j r hr
  cases r with
  | resv => simpa [RowOk, List.getElem?_append_left hlt'] using this
  | dead => simpa [RowOk, List.getElem?_append_left hlt'] using this
  | live ds =>
   rcases this with ⟨y, hy, hat⟩ | hv
   ·exact .inl ⟨y, by rw [List.getElem?_append_left hlt']; exact hy, hat.ext hext rfl⟩
   ·exact .inr (by rw [List.getElem?_append_left hlt']; exact hv)
 ·rename_i hge
  rw [List.getElem?_replicate] at hr
  split at hr
  ·rename_i hlt
   simp at hr
   subst hr
   have hge' : ρ.length ≤ j := by rw [g.len]; omega
   simp only [RowOk]
   rw [List.getElem?_append_right hge', List.getElem?_replicate, if_pos (by rw [g.len]; omega)]
  ·simp at hr

end

end Go.VS
namespace Go.VS


def usz (P : Program) (t : TypeId) : Option Nat := (P.info? t).map (·.size)
def ubytes (P : Program) (t : TypeId) : Option Nat := (P.info? t).map (·.bytes)
def uagg (P : Program) (t : TypeId) : Option Bool :=
 match P.underlying t with
 | some (.struct _) | some (.array _ _) => some true
 | some _ => some false
 | none => none
def uslice (P : Program) (t : TypeId) : Option TypeId :=
 match P.underlying t with
 | some (.slice e) => some e
 | _ => none
def uarr (P : Program) (t : TypeId) : Option (Nat × TypeId) :=
 match P.underlying t with
 | some (.array n e) => some (n, e)
 | _ => none
def uint (P : Program) (t : TypeId) : Option IntKind :=
 match P.underlying t with
 | some (.int k) => some k
 | _ => none
def ustr (P : Program) (t : TypeId) : Bool :=
 match P.underlying t with
 | some .string => true
 | _ => false
def uiface (P : Program) (t : TypeId) : Option Bool :=
 match P.underlying t with
 | some (.interface _) => some true
 | some _ => some false
 | none => none
def ufield (P : Program) (t : TypeId) (f : Nat) : Option (TypeId × Nat) :=
 match P.underlying t with
 | some (.struct fs) => (fs[f]?).map fun d => (d.type, d.offset)
 | _ => none
def uplaces (P : Program) (t : TypeId) : Option (Nat → Option (Nat × Nat)) :=
 match P.underlying t with
 | some (.struct fs) => (fs.toList.mapM fun f => (usz P f.type).map fun n => (f.offset, n)).map fun l i => l[i]?
 | some (.array _ e) => (usz P e).map fun n i => some (i * n, n)
 | _ => none
def uplace (P : Program) (t : TypeId) (i : Nat) : Option (Nat × Nat) := (uplaces P t).bind (· i)


def ofCell : Value → V
 | .bool b => .bool b
 | .int k n => .int k n
 | .string s => .str s.data.toList
 | .pointer none => .nilp
 | .slice none 0 0 => .nils
 | .nilFunc => .nilf
 | .nilIface => .niface
 | v => .val v
def ofConst : Value → V
 | .agg cs => .agg (cs.toList.map ofCell)
 | .tuple cs => .tup (cs.toList.map ofCell)
 | v => ofCell v
def uzero (P : Program) (t : TypeId) : Option (List V) := ((P.info? t).bind (·.zero)).map fun z => z.cells.toList.map ofCell

def sget : List V → Nat → V
 | [], _ => .junk
 | a :: _, 0 => a
 | _ :: l, n + 1 => sget l n
def sset : List V → Nat → V → List V
 | [], _, _ => []
 | _ :: l, 0, v => v :: l
 | a :: l, n + 1, v => a :: sset l n v
def sput (s : List V) (dst : Option Tmp) (v : V) : List V :=
 match dst with
 | some d => sset s d v
 | none => s
def lput : List V → Nat → List V → List V
 | cs, _, [] => cs
 | cs, i, v :: r => lput (cs.set i v) (i + 1) r

def oval (s : List V) : Operand → V
 | .tmp t => sget s t
 | .const v => ofConst v
 | .global g => .val (.pointer (some ⟨g, 0, none⟩))
 | .func f => .fn (.func f) []

def V.one : V → Bool
 | .agg _ | .tup _ | .junk => false
 | .val u => u.oneCell'
 | _ => true
def vcells : V → Option (List V)
 | .agg cs => some cs
 | v => if v.one then some [v] else none

def byteV (b : UInt8) : V := .int .u8 b.toNat
def V.isByte : V → Bool
 | .int .u8 _ => true
 | _ => false
def toByte : V → UInt8
 | .int .u8 n => UInt8.ofNat n.toNat
 | _ => 0


def aint (op : BinOp) (kd : IntKind) (a : Int) (kd' : IntKind) (b : Int) (k : V → Prop) : Prop :=
 match op with
 | .add => kd = kd' ∧ k (.int kd (kd.wrap (a + b)))
 | .sub => kd = kd' ∧ k (.int kd (kd.wrap (a - b)))
 | .mul => kd = kd' ∧ k (.int kd (kd.wrap (a * b)))
 | .quo => kd = kd' ∧ b ≠ 0 ∧ k (.int kd (kd.wrap (a.tdiv b)))
 | .rem => kd = kd' ∧ b ≠ 0 ∧ k (.int kd (a.tmod b))
 | .and => kd = kd' ∧ k (.int kd (bits .and kd a b))
 | .or => kd = kd' ∧ k (.int kd (bits .or kd a b))
 | .xor => kd = kd' ∧ k (.int kd (bits .xor kd a b))
 | .andNot => kd = kd' ∧ k (.int kd (bits .andNot kd a b))
 | .shl => 0 ≤ b ∧ k (.int kd (kd.wrap (a * 2 ^ (min b.toNat kd.bits))))
 | .shr => 0 ≤ b ∧ k (.int kd (a / 2 ^ (min b.toNat kd.bits)))
 | .eql => kd = kd' ∧ k (.bool (a == b))
 | .neq => kd = kd' ∧ k (.bool (a != b))
 | .lss => kd = kd' ∧ k (.bool (decide (a < b)))
 | .leq => kd = kd' ∧ k (.bool (decide (a ≤ b)))
 | .gtr => kd = kd' ∧ k (.bool (decide (b < a)))
 | .geq => kd = kd' ∧ k (.bool (decide (b ≤ a)))

def astr (op : BinOp) (a b : List UInt8) (k : V → Prop) : Prop :=
 match op with
 | .add => a.length + b.length ≤ 9223372036854775807 ∧ k (.str (a ++ b))
 | .eql => k (.bool (a == b))
 | .neq => k (.bool (!(a == b)))
 | .lss => k (.bool (Op.bytesLess a b))
 | .leq => k (.bool (Op.bytesLess a b || a == b))
 | .gtr => k (.bool (!(Op.bytesLess a b || a == b)))
 | .geq => k (.bool (!(Op.bytesLess a b)))
 | _ => False

def apart (P : Program) (t : TypeId) (cs : List V) (off : Nat) (k : V → Prop) : Prop :=
 match uagg P t with
 | some true => ∃ n, usz P t = some n ∧ k (.agg ((cs.drop off).take n))
 | some false => ∃ v, cs[off]? = some v ∧ k v
 | none => False
def opart (P : Program) (t : TypeId) (cs : List V) (off : Nat) : Option V :=
 match uagg P t with
 | some true => (usz P t).map fun n => .agg ((cs.drop off).take n)
 | some false => cs[off]?
 | none => none

def aeq (P : Program) : Nat → TypeId → V → V → Option Bool
 | 0, _, _, _ => none
 | d + 1, t, x, y =>
  match P.underlying t, x, y with
  | some .bool, .bool a, .bool b => some (a == b)
  | some (.int _), .int k a, .int k' b => if k = k' then some (a == b) else none
  | some .string, .str a, .str b => some (a == b)
  | some (.pointer _), .nilp, .nilp => some true
  | some (.pointer _), .nilp, .ref _ _ | some (.pointer _), .ref _ _, .nilp | some (.pointer _), .nilp, .rptr _ | some (.pointer _), .rptr _, .nilp => some false
  | some (.slice _), .nils, .nils => some true
  | some (.slice _), .val (.slice (some _) _ _), .nils => some false
  | some (.slice _), .nils, .sl (_ + 1) _ | some (.slice _), .sl (_ + 1) _, .nils | some (.slice _), .nils, .osl _ _ (_ + 1) _ | some (.slice _), .osl _ _ (_ + 1) _, .nils => some false
  | some (.func _ _ _), .nilf, .nilf => some true
  | some (.func _ _ _), .nilf, .fn _ _ | some (.func _ _ _), .fn _ _, .nilf => some false
  | some (.interface _), .iface _ _, .niface => some false
  | some (.struct fs), .agg xs, .agg ys => if P.stoodInHeld t then none else
    fs.toList.foldr (fun f acc => if f.name ≠ "_" then (match opart P f.type xs f.offset, opart P f.type ys f.offset with
     | some a, some b => (match aeq P d f.type a b with | some true => acc | some false => some false | none => none)
     | _, _ => none) else acc) (some true)
  | some (.array n e), .agg xs, .agg ys => match usz P e with
   | none => none
   | some m => (List.range n).foldr (fun i acc => match opart P e xs (i * m), opart P e ys (i * m) with
     | some a, some b => (match aeq P d e a b with | some true => acc | some false => some false | none => none)
     | _, _ => none) (some true)
  | _, _, _ => none

def unguarded (P : Program) (t : TypeId) (x : V) : Prop :=
 match x with
 | .agg _ => P.eqGuardType P.depth t = false
 | _ => True

def V.eqable : V → Bool
 | .bool _ | .nilp | .ref _ _ | .rptr _ | .nils | .sl _ _ | .osl _ _ _ _ | .nilf | .fn _ _ | .iface _ _ | .agg _ => true
 | .val (.slice _ _ _) => true
 | _ => false

def abin (P : Program) (op : BinOp) (xt : TypeId) (x y : V) (k : V → Prop) : Prop :=
 match x, y with
 | .int kd a, .int kd' b => aint op kd a kd' b k
 | .str a, .str b => astr op a b k
 | x, y => match op with
  | .eql => x.eqable = true ∧ unguarded P xt x ∧ ∃ r, aeq P 20 xt x y = some r ∧ k (.bool r)
  | .neq => x.eqable = true ∧ unguarded P xt x ∧ ∃ r, aeq P 20 xt x y = some r ∧ k (.bool (!r))
  | _ => False

def aun (op : UnOp) (x : V) (k : V → Prop) : Prop :=
 match op, x with
 | .neg, .int kd n => k (.int kd (kd.wrap (0 - n)))
 | .xor, .int kd n => k (.int kd (bits .xor kd (if kd.signed then -1 else kd.max) n))
 | .not, .bool b => k (.bool !b)
 | _, _ => False


abbrev KV := V → List Row → Prop

def abound : Option V → Nat → (Nat → Prop) → Prop
 | none, d, k => k d
 | some (.int _ n), _, k => 0 ≤ n ∧ k n.toNat
 | some _, _, _ => False

def aslice (P : Program) (t : TypeId) (x : V) (lo hi mx : Option V) (rows : List Row) (k : KV) : Prop :=
 mx = none ∧
 match x with
 | .str s => ustr P t = true ∧ abound hi s.length fun h => abound lo 0 fun l => l ≤ h ∧ h ≤ s.length ∧ k (.str ((s.drop l).take (h - l))) rows
 | .nils => (∃ e, uslice P t = some e ∧ (usz P e).isSome) ∧ abound hi 0 fun h => abound lo 0 fun l => l ≤ h ∧ h ≤ 0 ∧ k .nils rows
 | .sl n cs => ∃ e sz, uslice P t = some e ∧ usz P e = some sz ∧ abound hi n fun h => abound lo 0 fun l => l ≤ h ∧ h ≤ n ∧ k (.sl (h - l) ((cs.drop (l * sz)).take ((h - l) * sz))) rows
 | .osl id off n sz => ∃ e, uslice P t = some e ∧ usz P e = some sz ∧ abound hi n fun h => abound lo 0 fun l => l ≤ h ∧ h ≤ n ∧ k (.osl id (off + l * sz) (h - l) sz) rows
 | .ref id off => ∃ n e sz cs, uarr P t = some (n, e) ∧ usz P e = some sz ∧ rows[id]? = some (.live cs) ∧ off + n * sz ≤ cs.length ∧ cs ≠ [] ∧
   abound hi n fun h => abound lo 0 fun l => l ≤ h ∧ h ≤ n ∧ k (.osl id (off + l * sz) (h - l) sz) rows
 | _ => False

def aindexAddr (P : Program) (t : TypeId) (x ix : V) (rows : List Row) (k : KV) : Prop :=
 match ix with
 | .int _ i => (match x with
  | .sl n cs => ∃ e sz, uslice P t = some e ∧ usz P e = some sz ∧ 0 ≤ i ∧ i < n ∧ k (.rptr (cs.drop (i.toNat * sz))) rows
  | .osl id off n sz => ∃ e, uslice P t = some e ∧ usz P e = some sz ∧ 0 ≤ i ∧ i < n ∧ k (.ref id (off + i.toNat * sz)) rows
  | .ref id off => ∃ n e sz, uarr P t = some (n, e) ∧ usz P e = some sz ∧ 0 ≤ i ∧ i < n ∧ k (.ref id (off + i.toNat * sz)) rows
  | .rptr cs => ∃ n e sz, uarr P t = some (n, e) ∧ usz P e = some sz ∧ 0 ≤ i ∧ i < n ∧ k (.rptr (cs.drop (i.toNat * sz))) rows
  | _ => False)
 | _ => False

def afieldAddr (P : Program) (t : TypeId) (x : V) (f : Nat) (rows : List Row) (k : KV) : Prop :=
 ∃ ft o n, ufield P t f = some (ft, o) ∧ usz P ft = some (n + 1) ∧
  match x with
  | .ref id off => k (.ref id (off + o)) rows
  | .rptr cs => k (.rptr (cs.drop o)) rows
  | _ => False

def afield (P : Program) (t : TypeId) (x : V) (f : Nat) (k : V → Prop) : Prop :=
 match x with
 | .agg cs => ∃ ft o, ufield P t f = some (ft, o) ∧ apart P ft cs o k
 | _ => False

def aindex (P : Program) (t : TypeId) (x ix : V) (k : V → Prop) : Prop :=
 match ix with
 | .int _ i => (match x with
  | .agg cs => ∃ n e sz, uarr P t = some (n, e) ∧ usz P e = some sz ∧ 0 ≤ i ∧ i < n ∧ apart P e cs (i.toNat * sz) k
  | .str s => ustr P t = true ∧ 0 ≤ i ∧ ∃ b, s[i.toNat]? = some b ∧ k (.int .u8 b.toNat)
  | _ => False)
 | _ => False

def acells (P : Program) (t : TypeId) (cs : List V) (off : Nat) (k : V → Prop) : Prop :=
 match uagg P t with
 | some true => ∃ n, usz P t = some n ∧ off + n ≤ cs.length ∧ k (.agg ((cs.drop off).take n))
 | some false => ∃ v, cs[off]? = some v ∧ k v
 | none => False

def aload (P : Program) (t : TypeId) (x : V) (rows : List Row) (k : KV) : Prop :=
 match x with
 | .ref id off => ∃ cs, rows[id]? = some (.live cs) ∧ cs ≠ [] ∧ acells P t cs off fun v => k v rows
 | .rptr cs => acells P t cs 0 fun v => k v rows
 | _ => False

def astore (P : Program) (t : TypeId) (x v : V) (rows : List Row) (k : KV) : Prop :=
 match x with
 | .ref id off => ∃ cs vs n, rows[id]? = some (.live cs) ∧ cs ≠ [] ∧ vcells v = some vs ∧ usz P t = some n ∧ vs.length = n ∧ off + n ≤ cs.length ∧ (∀ c ∈ vs, c.one = true) ∧
   k .junk (rows.set id (.live (lput cs off vs)))
 | _ => False

def abox (v : V) (id : Nat) (rows : List Row) (k : KV) : Prop :=
 ∃ vs, vcells v = some vs ∧ Free rows id ∧ k (.ref id 0) (rput rows id (.live vs))

def afill (place : Nat → Option (Nat × Nat)) (ρ : Operand → V) : List (Nat × Operand) → List V → (List V → Prop) → Prop
 | [], cs, k => k cs
 | (i, x) :: r, cs, k => ∃ off sz vs, place i = some (off, sz) ∧ vcells (ρ x) = some vs ∧ vs.length = sz ∧ off + sz ≤ cs.length ∧ afill place ρ r (lput cs off vs) k

def abuild (P : Program) (t : TypeId) (ρ : Operand → V) (parts : List (Nat × Operand)) (k : V → Prop) : Prop :=
 ∃ z, uzero P t = some z ∧ (uplaces P t).isSome = true ∧ afill (uplace P t) ρ parts z fun cs => k (.agg cs)

def zeros (n : Nat) (z : List V) : List V := (List.replicate n z).flatten

def abuildSlice (P : Program) (t : TypeId) (len : Nat) (ρ : Operand → V) (parts : List (Nat × Operand)) (id : Nat) (rows : List Row) (k : KV) : Prop :=
 ∃ e sz z, uslice P t = some e ∧ usz P e = some sz ∧ uzero P e = some z ∧ z.length = sz ∧ len * sz ≤ 16777216 ∧ Free rows id ∧
  afill (fun i => some (i * sz, sz)) ρ parts (zeros len z) fun cs => k (.osl id 0 len sz) (rput rows id (.live cs))

def amakeSlice (P : Program) (t : TypeId) (l c : V) (id : Nat) (rows : List Row) (k : KV) : Prop :=
 match l, c with
 | .int _ l, .int _ c => ∃ e sz by' z, uslice P t = some e ∧ usz P e = some sz ∧ ubytes P e = some by' ∧ uzero P e = some z ∧ z.length = sz ∧ 0 ≤ l ∧ l ≤ c ∧ c ≤ 4611686018427387904 ∧ by' * c ≤ 281474976710656 ∧ Free rows id ∧
   k (.osl id 0 l.toNat sz) (rput rows id (.live (zeros c.toNat z)))
 | _, _ => False

def sliceCells (cs : List V) (off m : Nat) : List V := (cs.drop off).take m

def ashown (sz : Nat) (x : V) (rows : List Row) (k : Nat → List V → Prop) : Prop :=
 match x with
 | .nils => k 0 []
 | .sl n cs => cs.length = n * sz ∧ k n cs
 | .osl id off n sz' => sz' = sz ∧ ∃ cs, rows[id]? = some (.live cs) ∧ off + n * sz ≤ cs.length ∧ k n (sliceCells cs off (n * sz))
 | .str s => sz = 1 ∧ k s.length (s.map byteV)
 | .val v => (∃ a c, v = .slice (some a) 0 c) ∧ k 0 []
 | _ => False

def aconv (P : Program) (s d : TypeId) (x : V) (id : Nat) (rows : List Row) (k : KV) : Prop :=
 match x with
 | .int _ n => ∃ kd, uint P d = some kd ∧ (P.underlying s).isSome = true ∧ k (.int kd (kd.wrap n)) rows
 | .str l => (P.underlying s).isSome = true ∧ if ustr P d then k x rows else
   ∃ e, uslice P d = some e ∧ uint P e = some .u8 ∧ Free rows id ∧ k (.osl id 0 l.length 1) (rput rows id (.live (l.map byteV)))
 | _ => ustr P d = true ∧ (∃ e, uslice P s = some e ∧ uint P e = some .u8) ∧ ashown 1 x rows fun _ cs => (∀ c ∈ cs, c.isByte = true) ∧ k (.str (cs.map toByte)) rows

def aappend (P : Program) (t : TypeId) (s x : V) (id : Nat) (rows : List Row) (k : KV) : Prop :=
 ∃ e sz by' z, uslice P t = some e ∧ usz P e = some sz ∧ ubytes P e = some by' ∧ uzero P e = some z ∧ z.length = sz ∧
  ashown sz x rows fun m new => (∀ c ∈ new, c.one = true) ∧
  match s with
  | .nils => m * by' ≤ 140737488355328 ∧ m ≤ 1099511627776 ∧ Free rows id ∧ k (.osl id 0 m sz) (rput rows id (.live new))
  | .osl id0 off n sz' => sz' = sz ∧ (n + m) * by' ≤ 140737488355328 ∧ n + m ≤ 1099511627776 ∧ Free rows id ∧ ∃ cs, rows[id0]? = some (.live cs) ∧ off + n * sz ≤ cs.length ∧
    k (.osl id 0 (n + m) sz) (rput (rows.set id0 .dead) id (.live (sliceCells cs off (n * sz) ++ new)))
  | _ => False

def alen (P : Program) (t : TypeId) (x : V) (k : V → Prop) : Prop :=
 match x with
 | .str s => ustr P t = true ∧ k (.int .i64 s.length)
 | .nils => (uslice P t).isSome = true ∧ k (.int .i64 0)
 | .sl n _ => (uslice P t).isSome = true ∧ k (.int .i64 n)
 | .osl _ _ n _ => (uslice P t).isSome = true ∧ k (.int .i64 n)
 | _ => ∃ n e, uarr P t = some (n, e) ∧ k (.int .i64 n)

def acopy (P : Program) (t : TypeId) (d x : V) (rows : List Row) (k : KV) : Prop :=
 match d with
 | .osl id off n sz => ∃ e cs, uslice P t = some e ∧ usz P e = some sz ∧ rows[id]? = some (.live cs) ∧ cs ≠ [] ∧ off + n * sz ≤ cs.length ∧
   ashown sz x rows fun m new => m ≤ n ∧ (∀ c ∈ new, c.one = true) ∧ k (.int .i64 m) (rows.set id (.live (lput cs off new)))
 | _ => False

def aminmax (mx : Bool) : List V → (V → Prop) → Prop
 | [.int kd a, .int kd' b], k => kd = kd' ∧ k (.int kd (if mx then (if a < b then b else a) else (if b < a then b else a)))
 | [.int kd a, .int kd' b, .int kd'' c], k => kd = kd' ∧ kd' = kd'' ∧ k (.int kd (if mx then (if (if a < b then b else a) < c then c else (if a < b then b else a)) else (if c < (if b < a then b else a) then c else (if b < a then b else a))))
 | _, _ => False

def abuiltin (P : Program) (b : Builtin) (ts : Array TypeId) (args : List V) (id : Nat) (rows : List Row) (k : KV) : Prop :=
 match b, args with
 | .len, [x] => ∃ t, ts[0]? = some t ∧ alen P t x fun v => k v rows
 | .append, [s, x] => ∃ t t', ts[0]? = some t ∧ ts[1]? = some t' ∧ ((uslice P t').isSome = true ∨ ustr P t' = true) ∧ aappend P t s x id rows k
 | .copy, [d, x] => ∃ t, ts[0]? = some t ∧ acopy P t d x rows k
 | .min, args => aminmax false args fun v => k v rows
 | .max, args => aminmax true args fun v => k v rows
 | _, _ => False

end Go.VS
set_option linter.all false
namespace Go.VS

def OpOk (c : Ctx) (k : KV) (w : World) (ro : Nat → Prop) (ρ : Rho) (v : Value) (w' : World) : Prop :=
 ∃ r rows' ro' ρ', k r rows' ∧ Good c rows' w' ro' ρ' ∧ Rd w' ro' ρ' v r ∧ Ext w ro ρ w' ro' ρ'

def Runs (P : Program) (s : Sem Value) (c : Ctx) (k : KV) (w : World) (ro : Nat → Prop) (ρ : Rho) : Prop :=
 ∃ v w', s.run P w = .ok v w' ∧ OpOk c k w ro ρ v w'

section
variable {P : Program} {c : Ctx} {rows : List Row} {w : World} {ro : Nat → Prop} {ρ : Rho} {k : KV}

theorem Runs.same {s : Sem Value} {v : Value} {r : V} (g : Good c rows w ro ρ) (hr : s.run P w = .ok v w) (hv : Rd w ro ρ v r) (hk : k r rows) : Runs P s c k w ro ρ :=
 ⟨v, w, hr, r, rows, ro, ρ, hk, g, hv, Ext.refl _ _ _⟩

theorem rd_int {u : Value} {kd : IntKind} {n : Int} (h : Rd w ro ρ u (.int kd n)) : u = .int kd n := by cases h; rfl
theorem rd_bool {u : Value} {b : Bool} (h : Rd w ro ρ u (.bool b)) : u = .bool b := by cases h; rfl
theorem rd_str {u : Value} {s : List UInt8} (h : Rd w ro ρ u (.str s)) : u = .string ⟨s.toArray⟩ := by cases h; rfl
theorem rd_nils {u : Value} (h : Rd w ro ρ u .nils) : u = .slice none 0 0 := by cases h; rfl
theorem rd_nilp {u : Value} (h : Rd w ro ρ u .nilp) : u = .pointer none := by cases h; rfl
theorem rd_agg {u : Value} {cs : List V} (h : Rd w ro ρ u (.agg cs)) : ∃ us : Array Value, u = .agg us ∧ Rds w ro ρ us.toList cs := by
 cases h with
 | agg h1 h2 => exact ⟨_, rfl, by simpa using h1, fun i u x hu hx => h2 i u x (by simpa using hu) hx⟩
theorem rd_tup {u : Value} {cs : List V} (h : Rd w ro ρ u (.tup cs)) : ∃ us : Array Value, u = .tuple us ∧ Rds w ro ρ us.toList cs := by
 cases h with
 | tup h1 h2 => exact ⟨_, rfl, by simpa using h1, fun i u x hu hx => h2 i u x (by simpa using hu) hx⟩
theorem Rds.agg {us : Array Value} {cs : List V} (h : Rds w ro ρ us.toList cs) : Rd w ro ρ (.agg us) (.agg cs) :=
 .agg (by simpa using h.1) fun i u x hu hx => h.2 i u x (by simpa using hu) hx
theorem Rds.tup {us : Array Value} {cs : List V} (h : Rds w ro ρ us.toList cs) : Rd w ro ρ (.tuple us) (.tup cs) :=
 .tup (by simpa using h.1) fun i u x hu hx => h.2 i u x (by simpa using hu) hx

theorem Rds.get {us : List Value} {xs : List V} (h : Rds w ro ρ us xs) {i : Nat} {x : V} (hx : xs[i]? = some x) : ∃ u, us[i]? = some u ∧ Rd w ro ρ u x := by
 have hlt : i < us.length := by rw [h.1]; exact (List.getElem?_eq_some_iff.1 hx).1
 exact ⟨us[i], by simp [hlt], h.2 i _ x (by simp [hlt]) hx⟩

theorem Rds.drop {us : List Value} {xs : List V} (h : Rds w ro ρ us xs) (n : Nat) : Rds w ro ρ (us.drop n) (xs.drop n) :=
 ⟨by simp [h.1], fun i u x hu hx => h.2 (n + i) u x (by rwa [List.getElem?_drop] at hu) (by rwa [List.getElem?_drop] at hx)⟩
theorem Rds.take {us : List Value} {xs : List V} (h : Rds w ro ρ us xs) (n : Nat) : Rds w ro ρ (us.take n) (xs.take n) :=
 ⟨by simp [h.1], fun i u x hu hx => by
  rw [List.getElem?_take] at hu hx
  split at hu <;> simp_all
  exact h.2 i u x hu hx⟩


theorem runs_aint {op : BinOp} {kd kd' : IntKind} {a b : Int} {xt : TypeId} {ox oy : Operand} (g : Good c rows w ro ρ)
  (h : aint op kd a kd' b fun v => k v rows) : Runs P (do eqGuard op xt ox oy (.int kd a) (.int kd' b); binOp op xt (.int kd a) (.int kd' b)) c k w ro ρ := by
 have hp : ∀ n : Nat, (0 : Int) ≤ 2 ^ n := fun n => Int.pow_nonneg (by decide)
 cases op <;> simp only [aint] at h
 case add => obtain ⟨rfl, h⟩ := h; exact .same g (by simp [eqGuard, binOp, Op.intArith]) .int h
 case sub => obtain ⟨rfl, h⟩ := h; exact .same g (by simp [eqGuard, binOp, Op.intArith]) .int h
 case mul => obtain ⟨rfl, h⟩ := h; exact .same g (by simp [eqGuard, binOp, Op.intArith]) .int h
 case quo => obtain ⟨rfl, hb, h⟩ := h; exact .same g (by simp [eqGuard, binOp, Op.intDiv, hb]) .int h
 case rem => obtain ⟨rfl, hb, h⟩ := h; exact .same g (by simp [eqGuard, binOp, Op.intDiv, hb]) .int h
 case and => obtain ⟨rfl, h⟩ := h; exact .same g (by simp [eqGuard, binOp, Op.intBits, bits]) .int h
 case or => obtain ⟨rfl, h⟩ := h; exact .same g (by simp [eqGuard, binOp, Op.intBits, bits]) .int h
 case xor => obtain ⟨rfl, h⟩ := h; exact .same g (by simp [eqGuard, binOp, Op.intBits, bits]) .int h
 case andNot => obtain ⟨rfl, h⟩ := h; exact .same g (by simp [eqGuard, binOp, Op.intBits, bits]) .int h
 case shl => obtain ⟨hb, h⟩ := h; exact .same g (by simp [eqGuard, binOp, Op.shift, Int.not_lt.2 hb]) .int h
 case shr => obtain ⟨hb, h⟩ := h; exact .same g (by simp [eqGuard, binOp, Op.shift, Int.not_lt.2 hb, Int.fdiv_eq_ediv_of_nonneg _ (hp _)]) .int h
 case eql => obtain ⟨rfl, h⟩ := h; exact .same g (by simp [eqGuard, binOp, Op.intCmp]) .bool h
 case neq => obtain ⟨rfl, h⟩ := h; exact .same g (by simp [eqGuard, binOp, Op.intCmp]) .bool h
 case lss => obtain ⟨rfl, h⟩ := h; exact .same g (by simp [eqGuard, binOp, Op.intCmp]) .bool h
 case leq => obtain ⟨rfl, h⟩ := h; exact .same g (by simp [eqGuard, binOp, Op.intCmp]) .bool h
 case gtr => obtain ⟨rfl, h⟩ := h; exact .same g (by simp [eqGuard, binOp, Op.intCmp]) .bool h
 case geq => obtain ⟨rfl, h⟩ := h; exact .same g (by simp [eqGuard, binOp, Op.intCmp]) .bool h

theorem str_append (a b : List UInt8) : (⟨a.toArray⟩ : ByteArray) ++ ⟨b.toArray⟩ = ⟨(a ++ b).toArray⟩ := by
 apply ByteArray.ext
 simp
theorem str_size (a : List UInt8) : (⟨a.toArray⟩ : ByteArray).size = a.length := by simp [ByteArray.size]

theorem runs_astr {op : BinOp} {a b : List UInt8} {xt : TypeId} {ox oy : Operand} (g : Good c rows w ro ρ)
  (h : astr op a b fun v => k v rows) : Runs P (do eqGuard op xt ox oy (.string ⟨a.toArray⟩) (.string ⟨b.toArray⟩); binOp op xt (.string ⟨a.toArray⟩) (.string ⟨b.toArray⟩)) c k w ro ρ := by
 cases op <;> simp only [astr] at h
 case add =>
  obtain ⟨hb, h⟩ := h
  exact .same g (by simp [eqGuard, binOp, Op.stringOp, str_size, str_append]; omega) .str h
 case eql => exact .same g (by simp [eqGuard, binOp, Op.stringOp]) .bool h
 case neq => exact .same g (by simp [eqGuard, binOp, Op.stringOp]) .bool h
 case lss => exact .same g (by simp [eqGuard, binOp, Op.stringOp]) .bool h
 case leq => exact .same g (by simp [eqGuard, binOp, Op.stringOp]) .bool h
 case gtr => exact .same g (by simp [eqGuard, binOp, Op.stringOp]) .bool h
 case geq => exact .same g (by simp [eqGuard, binOp, Op.stringOp]) .bool h

theorem runs_aun {op : UnOp} {x : V} {u : Value} (g : Good c rows w ro ρ) (hx : Rd w ro ρ u x) (h : aun op x fun v => k v rows) : Runs P (Op.unary op u) c k w ro ρ := by
 unfold aun at h
 split at h
 ·obtain rfl := rd_int hx; exact .same g (by simp [Op.unary, Op.intArith]) .int h
 ·obtain rfl := rd_int hx; exact .same g (by simp [Op.unary, Op.intBits, bits]) .int h
 ·obtain rfl := rd_bool hx; exact .same g (by simp [Op.unary]) .bool h
 ·exact h.elim


theorem run_isAgg' {t : TypeId} {b : Bool} (h : uagg P t = some b) : (isAgg t).run P w = .ok b w := by
 unfold uagg at h
 split at h
 ·rename_i hu; simp at h; subst h; simp [isAgg, run_underlying hu]
 ·rename_i hu; simp at h; subst h; simp [isAgg, run_underlying hu]
 ·rename_i d h1 h2 hu
  simp at h; subst h
  simp only [isAgg, Sem.run_bind, run_underlying hu, Result.andThen_ok]
  first | rfl | (split <;> simp_all)
 ·simp at h

theorem usz_info {t : TypeId} {n : Nat} (h : usz P t = some n) : ∃ i, P.info? t = some i ∧ i.size = n := by
 simpa [usz] using h

theorem run_size {t : TypeId} {n : Nat} (h : usz P t = some n) : (sizeOf t).run P w = .ok n w := by
 obtain ⟨i, hi, rfl⟩ := usz_info h
 simp [sizeOf, typeInfo, hi]

theorem run_part {t : TypeId} {cs : List V} {us : Array Value} {off : Nat} {r : V} (hr : Rds w ro ρ us.toList cs) (h : opart P t cs off = some r) :
  ∃ v, (part t us off).run P w = .ok v w ∧ Rd w ro ρ v r := by
 unfold opart at h
 split at h
 ·rename_i ha
  cases hn : usz P t with
  | none => simp [hn] at h
  | some n =>
   simp [hn] at h
   subst h
   refine ⟨.agg (us.extract off (off + n)), by simp [part, run_isAgg' ha, run_size hn], ?_⟩
   refine Rds.agg ?_
   have : (us.extract off (off + n)).toList = (us.toList.drop off).take n := by simp
   rw [this]
   exact (hr.drop off).take n
 ·rename_i ha
  obtain ⟨u, hu, hrd⟩ := hr.get h
  have hu' : us[off]? = some u := by simpa using hu
  exact ⟨u, by simp [part, run_isAgg' ha, hu'], hrd⟩
 ·simp at h

theorem apart_opart {t : TypeId} {cs : List V} {off : Nat} {k : V → Prop} (h : apart P t cs off k) : ∃ r, opart P t cs off = some r ∧ k r := by
 unfold apart at h
 unfold opart
 split at h
 ·rename_i ha
  obtain ⟨n, hn, hk⟩ := h
  exact ⟨_, by simp [ha, hn], hk⟩
 ·rename_i ha
  obtain ⟨v, hv, hk⟩ := h
  exact ⟨v, by simp [ha, hv], hk⟩
 ·exact h.elim

theorem runs_afield {t : TypeId} {x : V} {u : Value} {f : Nat} (g : Good c rows w ro ρ) (hx : Rd w ro ρ u x) (h : afield P t x f fun v => k v rows) : Runs P (Instr.field t u f) c k w ro ρ := by
 unfold afield at h
 split at h
 ·obtain ⟨ft, o, hf, h⟩ := h
  obtain ⟨r, hr, hk⟩ := apart_opart h
  obtain ⟨us, rfl, hus⟩ := rd_agg hx
  obtain ⟨v, hv, hrd⟩ := run_part (P := P) hus hr
  unfold ufield at hf
  split at hf
  ·rename_i fs hu
   cases hd : fs[f]? with
   | none => simp [hd] at hf
   | some d =>
    simp [hd] at hf
    obtain ⟨rfl, rfl⟩ := hf
    exact .same g (by simp [Instr.field, run_underlying hu, hd, asAgg, hv]) hrd hk
  ·simp at hf
 ·exact h.elim

theorem uslice_under {t e : TypeId} (h : uslice P t = some e) : P.underlying t = some (.slice e) := by
 unfold uslice at h; split at h <;> simp_all
theorem uarr_under {t e : TypeId} {n : Nat} (h : uarr P t = some (n, e)) : P.underlying t = some (.array n e) := by
 unfold uarr at h; split at h <;> simp_all
theorem ustr_under {t : TypeId} (h : ustr P t = true) : P.underlying t = some .string := by
 unfold ustr at h; split at h <;> simp_all
theorem uint_under {t : TypeId} {kd : IntKind} (h : uint P t = some kd) : P.underlying t = some (.int kd) := by
 unfold uint at h; split at h <;> simp_all

theorem runs_aindex {t : TypeId} {x ix : V} {u i : Value} (g : Good c rows w ro ρ) (hx : Rd w ro ρ u x) (hi : Rd w ro ρ i ix) (h : aindex P t x ix fun v => k v rows) : Runs P (Instr.index t u i) c k w ro ρ := by
 cases ix with
 | int kd n =>
  obtain rfl := rd_int hi
  cases x with
  | agg cs =>
   obtain ⟨m, e, sz, hu, hs, h0, h1, h⟩ := h
   obtain ⟨r, hr, hk⟩ := apart_opart h
   obtain ⟨us, rfl, hus⟩ := rd_agg hx
   obtain ⟨v, hv, hrd⟩ := run_part (P := P) hus hr
   exact .same g (by simp [Instr.index, asIntOf, run_underlying (uarr_under hu), h0, h1, run_size hs, hv]) hrd hk
  | str s =>
   obtain ⟨hu, h0, b, hb, hk⟩ := h
   obtain rfl := rd_str hx
   have hb' : (ByteArray.mk s.toArray)[n.toNat]? = some b := by
    have hlt : n.toNat < s.length := (List.getElem?_eq_some_iff.1 hb).1
    have e := (List.getElem?_eq_some_iff.1 hb).2
    rw [getElem?_pos _ _ (by simpa [ByteArray.size] using hlt)]
    simp [ByteArray.getElem_eq_getElem_data, e]
   exact .same g (by simp [Instr.index, asIntOf, run_underlying (ustr_under hu), h0, hb']) .int hk
  | _ => exact False.elim h
 | _ => exact False.elim h


theorem run_loop_eq {α : Type} (B : α → Sem (ForInStep (Option Bool × Unit))) (q : α → Option Bool)
  (hB : ∀ a b, q a = some b → (B a).run P w = .ok (if b then .yield (none, ()) else .done (some false, ())) w) : ∀ (l : List α) (r : Bool),
  l.foldr (fun a acc => match q a with | some true => acc | some false => some false | none => none) (some true) = some r →
  (forIn l (none, ()) fun a _ => B a).run P w = .ok ((if r then none else some false), ()) w
 | [], r, h => by
  simp at h; subst h; rfl
 | a :: l, r, h => by
  simp only [List.foldr_cons] at h
  cases hq : q a with
  | none => simp [hq] at h
  | some b =>
   have ha := hB a b hq
   cases b with
   | true =>
    simp only [hq] at h
    simp [List.forIn_cons, ha, run_loop_eq B q hB l r h]
   | false =>
    simp [hq] at h
    subst h
    simp [List.forIn_cons, ha]

theorem str_beq (a b : List UInt8) : ((⟨a.toArray⟩ : ByteArray) == ⟨b.toArray⟩) = (a == b) := by
 rw [Bool.eq_iff_iff]
 show (a.toArray == b.toArray) = true ↔ _
 simp

theorem run_aeq_struct {d D : Nat} (ih : ∀ (t : TypeId) (x y : V) (u v : Value) (r : Bool), aeq P d t x y = some r → Rd w ro ρ u x → Rd w ro ρ v y → (Op.equalIn D t u v).run P w = .ok r w)
  {t : TypeId} {fs : Array Field} {xs ys : List V} {us vs : Array Value} (hu : P.underlying t = some (.struct fs)) (hs : P.stoodInHeld t = false) (hus : Rds w ro ρ us.toList xs) (hvs : Rds w ro ρ vs.toList ys) {r : Bool}
  (h : fs.toList.foldr (fun f acc => if f.name ≠ "_" then (match opart P f.type xs f.offset, opart P f.type ys f.offset with
     | some a, some b => (match aeq P d f.type a b with | some true => acc | some false => some false | none => none)
     | _, _ => none) else acc) (some true) = some r) : (Op.equalIn (D + 1) t (.agg us) (.agg vs)).run P w = .ok r w := by
 have hl := run_loop_eq (P := P) (w := w) (fun f : Field => if f.name = "_" then pure (ForInStep.yield (none, ())) else do
     let a ← part f.type us f.offset
     let b ← part f.type vs f.offset
     let e ← Op.equalIn D f.type a b
     if e = false then pure (ForInStep.done (some false, ())) else pure (ForInStep.yield (none, ())))
  (fun f => if f.name ≠ "_" then (match opart P f.type xs f.offset, opart P f.type ys f.offset with | some a, some b => aeq P d f.type a b | _, _ => none) else some true)
  (fun f b hq => by
   by_cases hn : f.name = "_"
   ·simp [hn] at hq ⊢; subst hq; rfl
   ·simp only [hn, ne_eq, not_false_eq_true, if_true] at hq
    split at hq
    ·rename_i a b' ha hb
     obtain ⟨va, hva, ra⟩ := run_part (P := P) hus ha
     obtain ⟨vb, hvb, rb⟩ := run_part (P := P) hvs hb
     have he := ih f.type a b' va vb b hq ra rb
     cases b <;> simp [hn, hva, hvb, he]
    ·simp at hq) fs.toList r (by
   rw [← h]
   congr 1
   funext f acc
   by_cases hn : f.name = "_"
   ·simp [hn]
   ·simp only [hn, ne_eq, not_false_eq_true, if_true]
    split <;> split <;> simp_all)
 simp only [Op.equalIn, Sem.run_bind, run_underlying hu, Result.andThen_ok, run_program]
 simp [hs]
 simp at hl
 rw [hl]
 cases r <;> simp

theorem run_aeq_array {d D : Nat} (ih : ∀ (t : TypeId) (x y : V) (u v : Value) (r : Bool), aeq P d t x y = some r → Rd w ro ρ u x → Rd w ro ρ v y → (Op.equalIn D t u v).run P w = .ok r w)
  {t e : TypeId} {n m : Nat} {xs ys : List V} {us vs : Array Value} (hu : P.underlying t = some (.array n e)) (hm : usz P e = some m) (hus : Rds w ro ρ us.toList xs) (hvs : Rds w ro ρ vs.toList ys) {r : Bool}
  (h : (List.range n).foldr (fun i acc => match opart P e xs (i * m), opart P e ys (i * m) with
     | some a, some b => (match aeq P d e a b with | some true => acc | some false => some false | none => none)
     | _, _ => none) (some true) = some r) : (Op.equalIn (D + 1) t (.agg us) (.agg vs)).run P w = .ok r w := by
 have hl := run_loop_eq (P := P) (w := w) (fun i : Nat => do
     let a ← part e us (i * m)
     let b ← part e vs (i * m)
     let q ← Op.equalIn D e a b
     if q = false then pure (ForInStep.done (some false, ())) else pure (ForInStep.yield (none, ())))
  (fun i => (match opart P e xs (i * m), opart P e ys (i * m) with | some a, some b => aeq P d e a b | _, _ => none))
  (fun i b hq => by
    split at hq
    ·rename_i a b' ha hb
     obtain ⟨va, hva, ra⟩ := run_part (P := P) hus ha
     obtain ⟨vb, hvb, rb⟩ := run_part (P := P) hvs hb
     have he := ih e a b' va vb b hq ra rb
     cases b <;> simp [hva, hvb, he]
    ·simp at hq) (List.range n) r (by
   rw [← h]
   congr 1
   funext i acc
   split <;> split <;> simp_all)
 simp only [Op.equalIn, Sem.run_bind, run_underlying hu, Result.andThen_ok, run_size hm]
 simp
 rw [← List.range_eq_range']
 rw [hl]
 cases r <;> simp

theorem run_aeq : ∀ (d : Nat) (t : TypeId) (x y : V) (u v : Value) (r : Bool), aeq P d t x y = some r → Rd w ro ρ u x → Rd w ro ρ v y → ∀ D, d ≤ D → (Op.equalIn D t u v).run P w = .ok r w
 | 0, _, _, _, _, _, _, h, _, _, _, _ => by simp [aeq] at h
 | d + 1, t, x, y, u, v, r, h, hx, hy, 0, hD => by omega
 | d + 1, t, x, y, u, v, r, h, hx, hy, D + 1, hD => by
  have ih : ∀ (t : TypeId) (x y : V) (u v : Value) (r : Bool), aeq P d t x y = some r → Rd w ro ρ u x → Rd w ro ρ v y → (Op.equalIn D t u v).run P w = .ok r w :=
   fun t x y u v r h hx hy => run_aeq d t x y u v r h hx hy D (by omega)
  unfold aeq at h
  split at h
  ·rename_i hu; simp at h; subst h; obtain rfl := rd_bool hx; obtain rfl := rd_bool hy; simp [Op.equalIn, run_underlying hu]
  ·rename_i hu; split at h <;> simp at h
   rename_i hk; subst h; subst hk; obtain rfl := rd_int hx; obtain rfl := rd_int hy; simp [Op.equalIn, run_underlying hu]
  ·rename_i hu; simp at h; subst h; obtain rfl := rd_str hx; obtain rfl := rd_str hy; simp [Op.equalIn, run_underlying hu, str_beq]
  ·rename_i hu; simp at h; subst h; obtain rfl := rd_nilp hx; obtain rfl := rd_nilp hy; simp [Op.equalIn, run_underlying hu]
  ·rename_i hu; simp at h; subst h; obtain rfl := rd_nilp hx; cases hy; simp [Op.equalIn, run_underlying hu]
  ·rename_i hu; simp at h; subst h; obtain rfl := rd_nilp hy; cases hx; simp [Op.equalIn, run_underlying hu]
  ·rename_i hu; simp at h; subst h; obtain rfl := rd_nilp hx; cases hy; simp [Op.equalIn, run_underlying hu]
  ·rename_i hu; simp at h; subst h; obtain rfl := rd_nilp hy; cases hx; simp [Op.equalIn, run_underlying hu]
  ·rename_i hu; simp at h; subst h; obtain rfl := rd_nils hx; obtain rfl := rd_nils hy; simp [Op.equalIn, run_underlying hu]
  ·rename_i hu; simp at h; subst h; cases hx; obtain rfl := rd_nils hy; simp [Op.equalIn, run_underlying hu]
  ·rename_i hu; simp at h; subst h; obtain rfl := rd_nils hx; cases hy; simp [Op.equalIn, run_underlying hu]
  ·rename_i hu; simp at h; subst h; obtain rfl := rd_nils hy; cases hx; simp [Op.equalIn, run_underlying hu]
  ·rename_i hu; simp at h; subst h; obtain rfl := rd_nils hx; cases hy; simp [Op.equalIn, run_underlying hu]
  ·rename_i hu; simp at h; subst h; obtain rfl := rd_nils hy; cases hx; simp [Op.equalIn, run_underlying hu]
  ·rename_i hu; simp at h; subst h; cases hx; cases hy; simp [Op.equalIn, run_underlying hu]
  ·rename_i hu; simp at h; subst h; cases hx; cases hy; simp [Op.equalIn, run_underlying hu]
  ·rename_i hu; simp at h; subst h; cases hx; cases hy; simp [Op.equalIn, run_underlying hu]
  ·rename_i hu; simp at h; subst h; cases hx; cases hy; simp [Op.equalIn, run_underlying hu]
  ·rename_i fs xs ys hu
   split at h
   ·simp at h
   rename_i hs
   obtain ⟨us, rfl, hus⟩ := rd_agg hx
   obtain ⟨vs, rfl, hvs⟩ := rd_agg hy
   exact run_aeq_struct ih hu (by simpa using hs) hus hvs h
  ·rename_i n e xs ys hu
   split at h
   ·simp at h
   rename_i m hm
   obtain ⟨us, rfl, hus⟩ := rd_agg hx
   obtain ⟨vs, rfl, hvs⟩ := rd_agg hy
   exact run_aeq_array ih hu hm hus hvs h
  ·simp at h

theorem eqable_binOp {op : BinOp} {xt : TypeId} {ox oy : Operand} {u v : Value} {x : V} {r : Bool} (he : x.eqable = true) (hx : Rd w ro ρ u x) (hg : unguarded P xt x)
  (h : (Op.equal xt u v).run P w = .ok r w) (hop : op = .eql ∨ op = .neq) :
  (do eqGuard op xt ox oy u v; binOp op xt u v).run P w = .ok (.bool (if op = .eql then r else !r)) w := by
 by_cases hv : ∃ a n c, x = .val (.slice a n c)
 ·obtain ⟨a, n, c, rfl⟩ := hv
  obtain rfl : u = .slice a n c := by cases hx; rfl
  have h1 : (eqGuard op xt ox oy (.slice a n c) v).run P w = .ok () w := by
   rcases hop with rfl | rfl <;> cases v <;> simp [eqGuard]
  have h2 : (binOp op xt (.slice a n c) v).run P w = .ok (.bool (if op = .eql then r else !r)) w := by
   rcases hop with rfl | rfl <;> simp [binOp, h]
  simp [h1, h2]
 have hne : ∀ v, x ≠ .val v := by
  rintro v rfl
  unfold V.eqable at he
  split at he <;> simp_all
 have hn : u ≠ .nilIface := by rintro rfl; cases hx <;> (try exact absurd rfl (hne _)) <;> simp [V.eqable] at he
 have h1 : (eqGuard op xt ox oy u v).run P w = .ok () w := by
  cases hx <;> (try exact absurd rfl (hne _)) <;> simp [V.eqable] at he <;> (try (rcases hop with rfl | rfl <;> cases v <;> simp [eqGuard])) <;> (simp [unguarded] at hg; simp [hg])
 have h2 : (binOp op xt u v).run P w = .ok (.bool (if op = .eql then r else !r)) w := by
  rcases hop with rfl | rfl <;> cases hx <;> (try exact absurd rfl (hne _)) <;> simp [V.eqable] at he <;> simp [binOp, h]
 simp [h1, h2]

theorem runs_abin {op : BinOp} {xt : TypeId} {ox oy : Operand} {x y : V} {u v : Value} (g : Good c rows w ro ρ) (hx : Rd w ro ρ u x) (hy : Rd w ro ρ v y)
  (h : abin P op xt x y fun v => k v rows) : Runs P (do eqGuard op xt ox oy u v; binOp op xt u v) c k w ro ρ := by
 unfold abin at h
 split at h
 ·obtain rfl := rd_int hx; obtain rfl := rd_int hy; exact runs_aint g h
 ·obtain rfl := rd_str hx; obtain rfl := rd_str hy; exact runs_astr g h
 ·split at h
  ·obtain ⟨he, hg, r, hr, hk⟩ := h
   have hq := run_aeq (P := P) 20 xt _ _ u v r hr hx hy Op.maxDepth (by unfold Op.maxDepth; omega)
   exact .same g (eqable_binOp (ox := ox) (oy := oy) he hx hg hq (.inl rfl)) .bool (by simpa using hk)
  ·obtain ⟨he, hg, r, hr, hk⟩ := h
   have hq := run_aeq (P := P) 20 xt _ _ u v r hr hx hy Op.maxDepth (by unfold Op.maxDepth; omega)
   exact .same g (eqable_binOp (ox := ox) (oy := oy) he hx hg hq (.inr rfl)) .bool (by simpa using hk)
  ·exact h.elim

end
end Go.VS
set_option linter.all false
namespace Go.VS

def CellsAt (w : World) (ro : Nat → Prop) (ρ : Rho) (b o : Nat) (cs : List V) : Prop :=
 ∀ (i : Nat) v, cs[i]? = some v → ∃ u, w.cell? ⟨b, o + i, none⟩ = some u ∧ Rd w ro ρ u v

section
variable {P : Program} {c : Ctx} {rows : List Row} {w : World} {ro : Nat → Prop} {ρ : Rho} {k : KV}

theorem RowAt.cellsAt {x : Own} {cs : List V} (h : RowAt w ro ρ x cs) : CellsAt w ro ρ x.b x.o cs := by
 obtain ⟨C, e, fr, h1, h2, h3, h4, h5⟩ := h
 intro i v hv
 obtain ⟨u, hu, hr⟩ := h5 i v hv
 exact ⟨u, by simp [World.cell?, h1, hu], hr⟩

theorem ext_nil (w : World) (ro : Nat → Prop) (ρ : Rho) : Ext w ro [] w ro ρ := ⟨fun _ h => h, fun _ _ => rfl, fun id y h => by simp at h⟩

theorem Rd.ofNil {u : Value} {x : V} (h : Rd w ro [] u x) : Rd w ro ρ u x := h.ext (ext_nil w ro ρ)

theorem CellsAt.drop {b o : Nat} {cs : List V} (h : CellsAt w ro ρ b o cs) (n : Nat) : CellsAt w ro ρ b (o + n) (cs.drop n) := by
 intro i v hv
 rw [List.getElem?_drop] at hv
 obtain ⟨u, hu, hr⟩ := h (n + i) v hv
 exact ⟨u, by rwa [show o + (n + i) = o + n + i by omega] at hu, hr⟩

theorem CellsAt.take {b o : Nat} {cs : List V} (h : CellsAt w ro ρ b o cs) (n : Nat) : CellsAt w ro ρ b o (cs.take n) := by
 intro i v hv
 rw [List.getElem?_take] at hv
 split at hv
 ·exact h i v hv
 ·simp at hv

theorem rd_rptr {u : Value} {cs : List V} (h : Rd w ro ρ u (.rptr cs)) : ∃ b o, u = .pointer (some ⟨b, o, none⟩) ∧ ro b ∧ CellsAt w ro [] b o cs := by
 cases h with
 | @rptr _ a us _ h1 h2 h3 h4 h5 =>
  obtain ⟨b, o, s⟩ := a
  simp at h1
  subst h1
  refine ⟨b, o, rfl, h2, fun i v hv => ?_⟩
  have hlt : i < us.length := by rw [h3]; exact (List.getElem?_eq_some_iff.1 hv).1
  exact ⟨us[i], h4 i _ (by simp [hlt]), h5 i _ v (by simp [hlt]) hv⟩

theorem CellsAt.list {b o : Nat} {cs : List V} (h : CellsAt w ro ρ b o cs) : ∃ us : List Value, us.length = cs.length ∧ (∀ (i : Nat) u, us[i]? = some u → w.cell? ⟨b, o + i, none⟩ = some u) ∧
  ∀ (i : Nat) u x, us[i]? = some u → cs[i]? = some x → Rd w ro ρ u x := by
 induction cs generalizing o with
 | nil => exact ⟨[], rfl, fun i u h => by simp at h, fun i u x h => by simp at h⟩
 | cons v cs ih =>
  obtain ⟨u, hu, hr⟩ := h 0 v rfl
  obtain ⟨us, h1, h2, h3⟩ := ih (o := o + 1) (fun i x hx => by
   obtain ⟨y, hy, hr⟩ := h (i + 1) x (by simpa using hx)
   exact ⟨y, by rwa [show o + (i + 1) = o + 1 + i by omega] at hy, hr⟩)
  refine ⟨u :: us, by simp [h1], fun i y hy => ?_, fun i y x hy hx => ?_⟩
  ·cases i with
   | zero => simp at hy; subst hy; exact hu
   | succ i => have := h2 i y (by simpa using hy); rwa [show o + 1 + i = o + (i + 1) by omega] at this
  ·cases i with
   | zero => simp at hy hx; subst hy; subst hx; exact hr
   | succ i => exact h3 i y x (by simpa using hy) (by simpa using hx)

theorem CellsAt.rptr {b o : Nat} {cs : List V} (h : CellsAt w ro [] b o cs) (hro : ro b) : Rd w ro ρ (.pointer (some ⟨b, o, none⟩)) (.rptr cs) := by
 obtain ⟨us, h1, h2, h3⟩ := h.list
 exact .rptr rfl hro h1 h2 h3

theorem CellsAt.sl {b o n cap : Nat} {cs : List V} (h : CellsAt w ro [] b o cs) (hro : ro b) (hn : n ≤ cap) : Rd w ro ρ (.slice (some ⟨b, o, none⟩) n cap) (.sl n cs) := by
 obtain ⟨us, h1, h2, h3⟩ := h.list
 exact .sl rfl hro hn h1 h2 h3

theorem rd_sl {u : Value} {n : Nat} {cs : List V} (h : Rd w ro ρ u (.sl n cs)) : (u = .slice none 0 0 ∧ n = 0 ∧ cs = []) ∨
  (∃ b o cap, u = .slice (some ⟨b, o, none⟩) n cap ∧ ro b ∧ n ≤ cap ∧ CellsAt w ro [] b o cs) ∨ ∃ a cap, u = .slice (some a) 0 cap ∧ n = 0 ∧ cs = [] := by
 cases h with
 | sl0 => exact .inl ⟨rfl, rfl, rfl⟩
 | @slz _ a cap => exact .inr (.inr ⟨a, cap, rfl, rfl, rfl⟩)
 | @sl _ a _ cap us _ h1 h2 h3 h4 h5 h6 =>
  obtain ⟨b, o, s⟩ := a
  simp at h1
  subst h1
  refine .inr (.inl ⟨b, o, cap, rfl, h2, h3, fun i v hv => ?_⟩)
  have hlt : i < us.length := by rw [h4]; exact (List.getElem?_eq_some_iff.1 hv).1
  exact ⟨us[i], h5 i _ (by simp [hlt]), h6 i _ v (by simp [hlt]) hv⟩

theorem rd_ref {u : Value} {id off : Nat} {cs : List V} (g : Good c rows w ro ρ) (h : Rd w ro ρ u (.ref id off)) (hl : rows[id]? = some (.live cs)) :
  ∃ x, ρ[id]? = some (.on x) ∧ RowAt w ro ρ x cs ∧ u = .pointer (some ⟨x.b, x.o + off, none⟩) := by
 obtain ⟨y, hy, hn, hd, hat, hv⟩ := g.live hl
 cases h with
 | ref h1 h2 h3 h4 =>
  rw [hy] at h1
  simp at h1
  subst h1
  cases y with
  | resv => exact absurd rfl hn
  | dead => exact absurd rfl hd
  | virt => exact absurd rfl h3
  | on x => exact ⟨x, hy, hat x rfl, by rw [h4 x rfl]⟩

theorem rd_osl {u : Value} {id off n sz : Nat} {cs : List V} (g : Good c rows w ro ρ) (h : Rd w ro ρ u (.osl id off n sz)) (hl : rows[id]? = some (.live cs)) :
  (u = .slice none 0 0 ∧ n = 0 ∧ cs = [] ∧ ρ[id]? = some .virt) ∨
  ∃ x o cap, ρ[id]? = some (.on x) ∧ RowAt w ro ρ x cs ∧ u = .slice (some ⟨x.b, o, none⟩) n cap ∧ (cap = 0 ∨ o = x.o + off) ∧ n ≤ cap ∧ o + cap * sz ≤ x.m := by
 obtain ⟨y, hy, hn, hd, hat, hv⟩ := g.live hl
 cases h with
 | osl0 h1 h2 h3 =>
  rw [hy] at h1
  simp at h1
  subst h1
  cases y with
  | resv => exact absurd rfl hn
  | dead => exact absurd rfl hd
  | virt => exact .inl ⟨rfl, rfl, hv rfl, hy⟩
  | on x => exact absurd rfl (h3 x)
 | @osl _ _ _ _ _ a cap _ h1 h2 h3 hle h4 =>
  rw [hy] at h1
  simp at h1
  subst h1
  cases y with
  | resv => exact absurd rfl hn
  | dead => exact absurd rfl hd
  | virt => exact absurd rfl h3
  | on x =>
   obtain ⟨e1, e2, e3, e4, e5⟩ := h4 x rfl
   obtain ⟨b, o, s⟩ := a
   simp at e1 e2
   subst e1; subst e2
   exact .inr ⟨x, o, cap, hy, hat x rfl, rfl, e3, e4, e5⟩

theorem add_eq (b o i : Nat) : (⟨b, o, none⟩ : Addr).add i = ⟨b, o + i, none⟩ := by
 unfold Addr.add
 split
 ·rename_i h; subst h; rfl
 ·rfl

theorem run_loadCells_at' {b o : Nat} {cs : List V} (h : CellsAt w ro ρ b o cs) : ∃ us : List Value, (∀ w', w'.heap = w.heap → (loadCells ⟨b, o, none⟩ cs.length).run P w' = .ok us.toArray w') ∧ Rds w ro ρ us cs := by
 obtain ⟨us, h1, h2, h3⟩ := h.list
 refine ⟨us, fun w' hw => ?_, h1, h3⟩
 rw [← h1]
 exact run_loadCells_list w' _ us fun j v hv => by rw [add_eq]; have := h2 j v hv; simpa [World.cell?, hw] using this

theorem run_loadCells_at {b o : Nat} {cs : List V} (h : CellsAt w ro ρ b o cs) : ∃ us : List Value, (loadCells ⟨b, o, none⟩ cs.length).run P w = .ok us.toArray w ∧ Rds w ro ρ us cs := by
 obtain ⟨us, h1, h2⟩ := run_loadCells_at' (P := P) h
 exact ⟨us, h1 w rfl, h2⟩

theorem runs_acells {t : TypeId} {b o off : Nat} {cs : List V} (g : Good c rows w ro ρ) (hc : CellsAt w ro ρ b o cs) (h : acells P t cs off fun v => k v rows) :
  Runs P (loadVar t ⟨b, o + off, none⟩) c k w ro ρ := by
 unfold acells at h
 split at h
 ·rename_i ha
  obtain ⟨n, hn, hle, hk⟩ := h
  obtain ⟨us, hl, hus⟩ := run_loadCells_at (P := P) ((hc.drop off).take n)
  have hlen : ((cs.drop off).take n).length = n := by simp; omega
  rw [hlen] at hl
  exact .same (v := .agg us.toArray) g (by simp [loadVar, run_isAgg' ha, run_size hn, hl]) (Rds.agg (by simpa using hus)) hk
 ·rename_i ha
  obtain ⟨v, hv, hk⟩ := h
  obtain ⟨u, hu, hr⟩ := hc off v hv
  exact .same g (by simp [loadVar, run_isAgg' ha, hu]) hr hk
 ·exact h.elim

theorem runs_aload {t : TypeId} {x : V} {u : Value} (g : Good c rows w ro ρ) (hx : Rd w ro ρ u x) (h : aload P t x rows k) : Runs P (Instr.loadAt t u) c k w ro ρ := by
 cases x with
 | ref id off =>
  obtain ⟨cs, hl, hne, h⟩ := h
  obtain ⟨x, hx', hat, rfl⟩ := rd_ref g hx hl
  have := runs_acells g hat.cellsAt h
  simpa [Instr.loadAt, Instr.sureAddr, Runs] using this
 | rptr cs =>
  obtain ⟨b, o, rfl, hro, hat⟩ := rd_rptr hx
  have := runs_acells (b := b) (o := o) g (fun i v hv => by obtain ⟨u, hu, hr⟩ := hat i v hv; exact ⟨u, hu, hr.ofNil⟩) h
  simpa [Instr.loadAt, Instr.sureAddr, Runs] using this
 | _ => exact False.elim h

theorem runs_afieldAddr {t : TypeId} {x : V} {u : Value} {f : Nat} (g : Good c rows w ro ρ) (hx : Rd w ro ρ u x) (h : afieldAddr P t x f rows k) : Runs P (Instr.fieldAt t u f) c k w ro ρ := by
 obtain ⟨ft, o, n, hf, hs, h⟩ := h
 unfold ufield at hf
 split at hf
 ·rename_i fs hu
  cases hd : fs[f]? with
  | none => simp [hd] at hf
  | some d =>
   simp [hd] at hf
   obtain ⟨rfl, rfl⟩ := hf
   have hrun : ∀ a : Addr, (Instr.fieldAt t (.pointer (some a)) f).run P w = .ok (.pointer (some (a.add d.offset))) w := by
    intro a
    simp [Instr.fieldAt, run_underlying hu, hd, Instr.sureAddr, fieldPlace, run_size hs]
   cases x with
   | ref id off =>
    cases hx with
    | @ref _ _ _ a y h1 h2 h3 h4 =>
     refine .same g (hrun a) (.ref h1 h2 h3 fun x hx => ?_) h
     rw [h4 x hx, add_eq, Nat.add_assoc]
   | rptr cs =>
    obtain ⟨b, o, rfl, hro, hat⟩ := rd_rptr hx
    refine .same g (hrun _) ?_ h
    rw [add_eq]
    exact (hat.drop d.offset).rptr hro
   | _ => exact False.elim h
 ·simp at hf

theorem runs_aindexAddr {t : TypeId} {x ix : V} {u i : Value} (g : Good c rows w ro ρ) (hx : Rd w ro ρ u x) (hi : Rd w ro ρ i ix) (h : aindexAddr P t x ix rows k) : Runs P (Instr.indexAt t u i) c k w ro ρ := by
 cases ix with
 | int kd n =>
  obtain rfl := rd_int hi
  cases x with
  | sl m cs =>
   obtain ⟨e, sz, hu, hs, h0, h1, hk⟩ := h
   rcases rd_sl hx with ⟨-, rfl, -⟩ | ⟨b, o, cap, rfl, hro, hcap, hat⟩ | ⟨a, cap, -, rfl, -⟩
   ·omega
   rotate_left
   ·omega
   ·refine .same g (by simp [Instr.indexAt, asIntOf, run_underlying (uslice_under hu), h0, h1, run_size hs, add_eq]; rfl) ?_ hk
    exact (hat.drop _).rptr hro
  | osl id off m sz =>
   obtain ⟨e, hu, hs, h0, h1, hk⟩ := h
   cases hx with
   | osl0 => omega
   | @osl _ _ _ _ _ a cap y q1 q2 q3 qle q4 =>
    refine .same g (by simp [Instr.indexAt, asIntOf, run_underlying (uslice_under hu), h0, h1, run_size hs]; rfl) (.ref q1 q2 q3 fun x hx => ?_) hk
    obtain ⟨e1, e2, e3, e4, e5⟩ := q4 x hx
    obtain ⟨b, o, s⟩ := a
    simp at e1 e2 e3
    subst e1; subst e2
    rw [add_eq]
    congr 1
    omega
  | ref id off =>
   obtain ⟨m, e, sz, hu, hs, h0, h1, hk⟩ := h
   cases hx with
   | @ref _ _ _ a y q1 q2 q3 q4 =>
    refine .same g (by simp [Instr.indexAt, asIntOf, Instr.sureAddr, run_underlying (uarr_under hu), h0, h1, run_size hs]; rfl) (.ref q1 q2 q3 fun x hx => ?_) hk
    rw [q4 x hx, add_eq, Nat.add_assoc]
  | rptr cs =>
   obtain ⟨m, e, sz, hu, hs, h0, h1, hk⟩ := h
   obtain ⟨b, o, rfl, hro, hat⟩ := rd_rptr hx
   refine .same g (by simp [Instr.indexAt, asIntOf, Instr.sureAddr, run_underlying (uarr_under hu), h0, h1, run_size hs, add_eq]; rfl) ?_ hk
   exact (hat.drop _).rptr hro
  | _ => exact False.elim h
 | _ => exact False.elim h

theorem runs_alen {t ty : TypeId} {x : V} {u : Value} (g : Good c rows w ro ρ) (hx : Rd w ro ρ u x) (h : alen P t x fun v => k v rows) : Runs P (Builtin.len_ #[t] ty #[u]) c k w ro ρ := by
 have hslice : ∀ (a : Option Addr) (n cap : Nat), (uslice P t).isSome = true → (Builtin.len_ #[t] ty #[.slice a n cap]).run P w = .ok (.int .i64 n) w := by
  intro a n cap hs
  obtain ⟨e, he⟩ := Option.isSome_iff_exists.1 hs
  simp [Builtin.len_, run_underlying (uslice_under he), goInt]
 have harr : (∃ n e, uarr P t = some (n, e) ∧ k (.int .i64 n) rows) → Runs P (Builtin.len_ #[t] ty #[u]) c k w ro ρ := by
  rintro ⟨n, e, hu, hk⟩
  exact .same g (by simp [Builtin.len_, run_underlying (uarr_under hu), goInt]) .int hk
 cases x with
 | str s =>
  obtain rfl := rd_str hx
  exact .same g (by simp [Builtin.len_, run_underlying (ustr_under h.1), goInt, str_size]) .int h.2
 | nils => obtain rfl := rd_nils hx; exact .same g (hslice _ _ _ h.1) .int (by simpa using h.2)
 | sl n cs =>
  rcases rd_sl hx with ⟨rfl, rfl, -⟩ | ⟨b, o, cap, rfl, -⟩ | ⟨a, cap, rfl, rfl, -⟩
  ·exact .same g (hslice _ _ _ h.1) .int h.2
  ·exact .same g (hslice _ _ _ h.1) .int h.2
  ·exact .same g (hslice _ _ _ h.1) .int h.2
 | osl id off n sz =>
  cases hx with
  | osl0 => exact .same g (hslice _ _ _ h.1) .int h.2
  | osl => exact .same g (hslice _ _ _ h.1) .int h.2
 | _ => exact harr h

end
end Go.VS
set_option linter.all false
namespace Go.VS

section
variable {P : Program} {c : Ctx} {rows : List Row} {w : World} {ro : Nat → Prop} {ρ : Rho} {k : KV}

theorem one_oneCell {u : Value} {x : V} (h : Rd w ro ρ u x) (ho : x.one = true) : u.oneCell' = true := by
 cases h <;> simp_all [V.one, Value.oneCell']

theorem Rds.oneCell {us : List Value} {xs : List V} (h : Rds w ro ρ us xs) (ho : ∀ x ∈ xs, x.one = true) : ∀ u ∈ us, u.oneCell' = true := by
 intro u hu
 obtain ⟨i, hi, rfl⟩ := List.mem_iff_getElem.1 hu
 have hlt : i < xs.length := by rw [← h.1]; exact hi
 exact one_oneCell (h.2 i _ xs[i] (by simp [hi]) (by simp [hlt])) (ho _ (by simp))

theorem rd_vcells {u : Value} {x : V} {xs : List V} (h : Rd w ro ρ u x) (hx : vcells x = some xs) : Rds w ro ρ u.cells.toList xs := by
 cases x with
 | agg cs =>
  simp [vcells] at hx
  subst hx
  obtain ⟨us, rfl, hus⟩ := rd_agg h
  exact hus
 | _ =>
  all_goals
   simp only [vcells] at hx
   split at hx
   ·simp at hx
    subst hx
    rename_i ho
    have hu := one_oneCell h ho
    have he : u.cells = #[u] := by cases u <;> simp_all [Value.cells, Value.oneCell']
    rw [he]
    exact ⟨rfl, fun i a b ha hb => by cases i <;> simp_all⟩
   ·simp at hx


theorem lput_length : ∀ (vs cs : List V) (o : Nat), (lput cs o vs).length = cs.length
 | [], _, _ => rfl
 | v :: vs, cs, o => by rw [lput, lput_length vs]; simp

theorem lput_get : ∀ (vs cs : List V) (o j : Nat), o + vs.length ≤ cs.length → (lput cs o vs)[j]? = if o ≤ j ∧ j < o + vs.length then vs[j - o]? else cs[j]?
 | [], cs, o, j, _ => by simp [lput]; omega
 | v :: vs, cs, o, j, h => by
  simp at h
  rw [lput, lput_get vs _ _ j (by simp; omega)]
  by_cases h1 : o + 1 ≤ j ∧ j < o + 1 + vs.length
  ·rw [if_pos h1, if_pos (by simp; omega)]
   rw [show j - o = (j - (o + 1)) + 1 by omega, List.getElem?_cons_succ]
  ·rw [if_neg h1, List.getElem?_set]
   by_cases h2 : o = j
   ·subst h2
    rw [if_pos rfl, if_pos (by omega), if_pos (by simp)]
    simp
   ·rw [if_neg h2, if_neg (by simp; omega)]

theorem run_storeCells_blk {b o : Nat} {e : TypeId} {fr : Nat × Nat} : ∀ (vs : List Value) (i : Nat) (w : World) (C : Array Value), (∀ v ∈ vs, v.oneCell' = true) → w.heap[b]? = some (.cells C e fr) →
  (∀ i, i < C.size → ¬ (fr.1 ≤ i ∧ i < fr.2)) → o + i + vs.length ≤ C.size → ∃ w' C', (storeCells ⟨b, o, none⟩ vs i).run P w = .ok () w' ∧ w'.os = w.os ∧ w'.tape = w.tape ∧ w'.output = w.output ∧
   w'.heap.size = w.heap.size ∧ (∀ k, k ≠ b → w'.heap[k]? = w.heap[k]?) ∧ w'.heap[b]? = some (.cells C' e fr) ∧ C'.size = C.size ∧
   ∀ j : Nat, C'[j]? = if o + i ≤ j ∧ j < o + i + vs.length then vs[j - (o + i)]? else C[j]?
 | [], i, w, C, _, hb, _, _ => ⟨w, C, rfl, rfl, rfl, rfl, rfl, fun _ _ => rfl, hb, rfl, fun j => by simp; omega⟩
 | v :: vs, i, w, C, h1, hb, hf, hle => by
  simp at hle
  have hlt : o + i < C.size := by omega
  have hcell : w.cell? ⟨b, o + i, none⟩ = some C[o + i] := by simp [World.cell?, hb, hlt]
  have hfro : w.frozen? ⟨b, o + i, none⟩ = false := by
   have := hf (o + i) hlt
   simp [World.frozen?, hb]; omega
  have hbl : b < w.heap.size := (Array.getElem?_eq_some_iff.1 hb).1
  have hb1 : (w.setCell ⟨b, o + i, none⟩ v).heap[b]? = some (.cells (C.setIfInBounds (o + i) v) e fr) := by
   simp [World.setCell, Array.getElem?_modify, hb]
  have hst : (store ((⟨b, o, none⟩ : Addr).add i) v).run P w = .ok () (w.setCell ⟨b, o + i, none⟩ v) := by
   rw [add_eq, run_store P w _ v _ (h1 v (by simp)), hcell]
   simp [hfro]
  obtain ⟨w', C', r1, r2, r3, r4, r5, r6, r7, r8, r9⟩ := run_storeCells_blk (b := b) (o := o) vs (i + 1) (w.setCell ⟨b, o + i, none⟩ v) (C.setIfInBounds (o + i) v) (fun x hx => h1 x (by simp [hx])) hb1
   (by simpa using hf) (by simp; omega)
  refine ⟨w', C', ?_, r2, r3, r4, by rw [r5]; simp [World.setCell], fun k hk => ?_, r7, by simpa using r8, fun j => ?_⟩
  ·simp only [storeCells, Sem.run_bind, hst, Result.andThen_ok, r1]
  ·rw [r6 k hk]
   simp only [World.setCell, Array.getElem?_modify]
   rw [if_neg (fun h => hk h.symm)]
  ·rw [r9]
   by_cases q : o + (i + 1) ≤ j ∧ j < o + (i + 1) + vs.length
   ·rw [if_pos q, if_pos (by simp; omega), show j - (o + i) = (j - (o + (i + 1))) + 1 by omega, List.getElem?_cons_succ]
   ·rw [if_neg q, Array.getElem?_setIfInBounds]
    by_cases q2 : o + i = j
    ·subst q2
     rw [if_pos rfl, if_pos (by simp [hlt]), if_pos (by simp)]
     simp
    ·rw [if_neg q2, if_neg (by simp; omega)]

theorem Good.stored (g : Good c rows w ro ρ) {id off : Nat} {x : Own} {cs xs : List V} {vs : List Value} (hl : rows[id]? = some (.live cs)) (hx : ρ[id]? = some (.on x)) (hvs : Rds w ro ρ vs xs)
  (ho : ∀ y ∈ xs, y.one = true) (hle : off + xs.length ≤ cs.length) : ∃ w', (storeCells ⟨x.b, x.o + off, none⟩ vs).run P w = .ok () w' ∧ Good c (rows.set id (.live (lput cs off xs))) w' ro ρ ∧ Ext w ro ρ w' ro ρ := by
 obtain ⟨cs', hl', hat⟩ := g.alive hx
 rw [hl] at hl'
 simp at hl'
 subst hl'
 obtain ⟨C, e, fr, h1, h2, h3, h4, h5⟩ := hat
 obtain ⟨w', C', r1, r2, r3, r4, r5, r6, r7, r8, r9⟩ := run_storeCells_blk (P := P) (b := x.b) (o := x.o + off) vs 0 w C (hvs.oneCell ho) h1 (by rw [h2]; exact h3) (by rw [h2]; have := hvs.1; omega)
 refine ⟨w', r1, g.store hl hx r2 r3 r4 r5 r6 fun hext => ⟨C', e, fr, r7, by rw [r8, h2], h3, by rw [lput_length]; exact h4, fun i v hv => ?_⟩⟩
 rw [lput_get _ _ _ _ hle] at hv
 have hlen := hvs.1
 by_cases q : off ≤ i ∧ i < off + xs.length
 ·rw [if_pos q] at hv
  obtain ⟨u, hu, hr⟩ := hvs.get hv
  refine ⟨u, ?_, hr.ext hext⟩
  rw [r9, if_pos (by omega), show x.o + i - (x.o + off + 0) = i - off by omega]
  exact hu
 ·rw [if_neg q] at hv
  obtain ⟨u, hu, hr⟩ := h5 i v hv
  refine ⟨u, ?_, hr.ext hext⟩
  rw [r9, if_neg (by omega)]
  exact hu

def RunsU (P : Program) (s : Sem Unit) (c : Ctx) (k : KV) (w : World) (ro : Nat → Prop) (ρ : Rho) : Prop :=
 ∃ w', s.run P w = .ok () w' ∧ OpOk c k w ro ρ undef w'

theorem runs_astore {t : TypeId} {x v : V} {u uv : Value} (g : Good c rows w ro ρ) (hx : Rd w ro ρ u x) (hv : Rd w ro ρ uv v) (h : astore P t x v rows k) : RunsU P (Instr.storeAt t u uv) c k w ro ρ := by
 cases x with
 | ref id off =>
  obtain ⟨cs, vs, n, hl, hne, hvc, hs, hlen, hle, ho, hk⟩ := h
  obtain ⟨x, hx', hat, rfl⟩ := rd_ref g hx hl
  have hus := rd_vcells hv hvc
  obtain ⟨w', hr, hg, he⟩ := g.stored (P := P) (off := off) hl hx' hus ho (by omega)
  refine ⟨w', ?_, .junk, _, ro, ρ, hk, hg, .junk, he⟩
  have hsz : uv.cells.size = n := by have := hus.1; simp at this; omega
  simp [Instr.storeAt, Instr.sureAddr, storeVar, run_size hs, hsz, hr]
 | _ => exact False.elim h


theorem Good.newRow (g : Good c rows w ro ρ) {id : Nat} (hf : Free rows id) {us : List Value} {xs : List V} (h : Rds w ro ρ us xs) (rest : List Value) (e : TypeId) :
  Good c (rput rows id (.live xs)) (w.alloc (.cells (us ++ rest).toArray e)) ro (rput ρ id (.on ⟨w.heap.size, 0, us.length + rest.length⟩)) ∧
   Ext w ro ρ (w.alloc (.cells (us ++ rest).toArray e)) ro (rput ρ id (.on ⟨w.heap.size, 0, us.length + rest.length⟩)) := by
 obtain ⟨g1, e1⟩ := g.push (.cells (us ++ rest).toArray e)
 have hroN : ¬ ro w.heap.size := fun hr => by have := g.roLt _ hr; omega
 obtain ⟨g2, e2⟩ := g1.add (x := ⟨w.heap.size, 0, us.length + rest.length⟩) (cs := xs) hf (by
   refine ⟨(us ++ rest).toArray, e, (0, 0), by simp, by simp, fun i _ => by omega, by have := h.1; simp; omega, fun i v hv => ?_⟩
   obtain ⟨u, hu, hr⟩ := h.get hv
   refine ⟨u, ?_, hr.ext e1⟩
   have hlt := (List.getElem?_eq_some_iff.1 hu).1
   simp [List.getElem?_append_left hlt, hu]) hroN
  (fun j y hy hb => by have := g.ownLt hy; simp at hb; omega) (.inr g.size)
 exact ⟨g2, e1.trans e2⟩

theorem get_rput (g : Good c rows w ro ρ) {id : Nat} (hf : Free rows id) (p : Pl) : (rput ρ id p)[id]? = some p := by
 rw [rput_get (g.freeLe hf), if_pos rfl]

theorem runs_newVar {id : Nat} {us : Array Value} {xs : List V} {e : TypeId} (g : Good c rows w ro ρ) (hf : Free rows id) (h : Rds w ro ρ us.toList xs) (hk : k (.ref id 0) (rput rows id (.live xs))) :
  Runs P (do pure (.pointer (some (← Go.newRow e us)))) c k w ro ρ := by
 obtain ⟨g1, e1⟩ := g.newRow hf h [] e
 refine ⟨.pointer (some ⟨w.heap.size, 0, none⟩), _, ?_, .ref id 0, _, ro, _, hk, g1, ?_, e1⟩
 ·simp [Go.newRow]
 ·exact .ref (get_rput g hf _) (fun h => by cases h) (fun h => by cases h) (fun x hx => by cases hx; rfl)

theorem runs_abox {v : V} {u : Value} {id : Nat} {e : TypeId} (g : Good c rows w ro ρ) (hv : Rd w ro ρ u v) (h : abox v id rows k) : Runs P (Instr.box e u) c k w ro ρ := by
 obtain ⟨vs, hvc, hf, hk⟩ := h
 exact runs_newVar g hf (rd_vcells hv hvc) hk

theorem rd_ofCell (u : Value) : Rd w ro ρ u (ofCell u) := by
 unfold ofCell
 split
 ·exact .bool
 ·exact .int
 ·rename_i s
  have : (.string s : Value) = .string ⟨s.data.toList.toArray⟩ := by simp
  rw [this]
  exact .str
 ·exact .nilp
 ·exact .nils
 ·exact .nilf
 ·exact .niface
 ·exact .val

theorem rds_map_ofCell (us : List Value) : Rds w ro ρ us (us.map ofCell) :=
 ⟨by simp, fun i u x hu hx => by simp [hu] at hx; subst hx; exact rd_ofCell u⟩

theorem rd_ofConst (u : Value) : Rd w ro ρ u (ofConst u) := by
 unfold ofConst
 split
 ·exact Rds.agg (rds_map_ofCell _)
 ·exact Rds.tup (rds_map_ofCell _)
 ·exact rd_ofCell _

theorem uzero_run {t : TypeId} {z : List V} (h : uzero P t = some z) : ∃ v, (zeroValue t).run P w = .ok v w ∧ z = v.cells.toList.map ofCell ∧ ∃ i, P.info? t = some i := by
 unfold uzero at h
 cases hi : P.info? t with
 | none => simp [hi] at h
 | some i =>
  simp only [hi, Option.bind_some] at h
  cases hz : i.zero with
  | none => simp [hz] at h
  | some v =>
   simp [hz] at h
   exact ⟨v, by simp [zeroValue, typeInfo, hi, hz], h.symm, i, rfl⟩

theorem runs_aalloc {t : TypeId} {id : Nat} {z : List V} (g : Good c rows w ro ρ) (hz : uzero P t = some z) (hf : Free rows id) (hk : k (.ref id 0) (rput rows id (.live z))) :
  Runs P (Instr.alloc t true (.tuple #[])) c k w ro ρ := by
 obtain ⟨v, hv, rfl, -⟩ := uzero_run (P := P) (w := w) hz
 have := runs_newVar (P := P) (e := t) g hf (rds_map_ofCell v.cells.toList) hk
 obtain ⟨r, w', hr, hok⟩ := this
 exact ⟨r, w', by simpa [Instr.alloc, hv, newVar] using hr, hok⟩


theorem Rds.lput : ∀ {vs : List Value} {xs : List V} {us : List Value} {cs : List V} {o : Nat}, Rds w ro ρ us cs → Rds w ro ρ vs xs → ∀ (C : Array Value), C.toList = us →
  Rds w ro ρ ((vs.zipIdx.foldl (fun (D : Array Value) (p : Value × Nat) => D.setIfInBounds (o + p.2) p.1) C).toList) (lput cs o xs)
 | vs, xs, us, cs, o, hu, hv, C, hC => by
  have key : ∀ (vs : List Value) (xs : List V) (us : List Value) (cs : List V) (n : Nat) (C : Array Value), Rds w ro ρ us cs → Rds w ro ρ vs xs → C.toList = us →
    Rds w ro ρ (((vs.zipIdx n).foldl (fun (D : Array Value) (p : Value × Nat) => D.setIfInBounds (o + p.2) p.1) C).toList) (VS.lput cs (o + n) xs) := by
   intro vs
   induction vs with
   | nil =>
    intro xs us cs n C hu hv hC
    cases xs with
    | nil => simpa [VS.lput, hC] using hu
    | cons x xs => simp [Rds] at hv
   | cons v vs ih =>
    intro xs us cs n C hu hv hC
    cases xs with
    | nil => simp [Rds] at hv
    | cons x xs =>
     have hvx : Rd w ro ρ v x := hv.2 0 v x rfl rfl
     have hv' : Rds w ro ρ vs xs := ⟨by simpa using hv.1, fun i a b ha hb => hv.2 (i + 1) a b (by simpa using ha) (by simpa using hb)⟩
     simp only [List.zipIdx_cons, List.foldl_cons, VS.lput]
     have := ih xs (us.set (o + n) v) (cs.set (o + n) x) (n + 1) (C.setIfInBounds (o + n) v) ⟨by simp [hu.1], fun i a b ha hb => by
      rw [List.getElem?_set] at ha hb
      by_cases hi : o + n = i
      ·subst hi
       simp at ha hb
       obtain ⟨_, rfl⟩ := ha
       obtain ⟨_, rfl⟩ := hb
       exact hvx
      ·rw [if_neg hi] at ha hb
       exact hu.2 i a b ha hb⟩ hv' (by simp [hC])
     rw [show o + (n + 1) = o + n + 1 by omega] at this
     exact this
  simpa using key vs xs us cs 0 C hu hv hC

theorem run_fill {place place' : Nat → Option (Nat × Nat)} {a : Operand → Value} {s : Operand → V} : ∀ (parts : List (Nat × Operand)) (C : Array Value) (cs : List V) {K : List V → Prop},
  (∀ p ∈ parts, Rd w ro ρ (a p.2) (s p.2)) → (∀ i q, place i = some q → place' i = some q) → Rds w ro ρ C.toList cs → afill place s parts cs K →
  ∃ D ds, Instr.fill place' C (parts.map fun p => (p.1, a p.2)) = some D ∧ K ds ∧ Rds w ro ρ D.toList ds
 | [], C, cs, K, _, _, hC, h => ⟨C, cs, rfl, h, hC⟩
 | (i, x) :: parts, C, cs, K, hp, hpl, hC, h => by
  obtain ⟨off, sz, vs, h1, h2, h3, h4, h5⟩ := h
  have hx := rd_vcells (hp (i, x) (by simp)) h2
  have hlen := hx.1
  simp at hlen
  have hCl := hC.1
  simp at hCl
  obtain ⟨D, ds, r1, r2, r3⟩ := run_fill (place := place) (place' := place') (a := a) parts _ (lput cs off vs) (fun p hp' => hp p (by simp [hp'])) hpl (Rds.lput (o := off) hC hx C rfl) h5
  refine ⟨D, ds, ?_, r2, r3⟩
  simp only [List.map_cons, Instr.fill, hpl i _ h1]
  rw [if_neg (by simp; omega)]
  rw [← r1]
  congr 1
  rw [← Array.foldl_toList, Array.toList_zipIdx]

end
end Go.VS
set_option linter.all false
namespace Go.VS

section
variable {P : Program} {c : Ctx} {rows : List Row} {w : World} {ro : Nat → Prop} {ρ : Rho} {k : KV}

theorem run_mapM_opt {α β : Type} (f : α → Sem β) (q : α → Option β) (hf : ∀ a b, q a = some b → (f a).run P w = .ok b w) : ∀ (l : List α) (r : List β), l.mapM q = some r → (l.mapM f).run P w = .ok r w
 | [], r, h => by simp at h; subst h; simp
 | a :: l, r, h => by
  simp only [List.mapM_cons, Option.bind_eq_bind, Option.bind_eq_some_iff, Option.pure_def, Option.some.injEq] at h
  obtain ⟨b, hb, bs, hbs, rfl⟩ := h
  simp [List.mapM_cons, hf a b hb, run_mapM_opt f q hf l bs hbs]

theorem runs_abuild {t : TypeId} {a : Operand → Value} {s : Operand → V} {parts : List (Nat × Operand)} (g : Good c rows w ro ρ) (hp : ∀ p ∈ parts, Rd w ro ρ (a p.2) (s p.2))
  (h : abuild P t s parts fun v => k v rows) : Runs P (Instr.build t (parts.map fun p => (p.1, a p.2)).toArray) c k w ro ρ := by
 obtain ⟨z, hz, hpl, h⟩ := h
 obtain ⟨v, hv, rfl, -⟩ := uzero_run (P := P) (w := w) hz
 obtain ⟨pl, hpl⟩ := Option.isSome_iff_exists.1 hpl
 obtain ⟨D, ds, r1, r2, r3⟩ := run_fill (place' := pl) parts v.cells _ hp (fun i q hq => by simpa [uplace, hpl] using hq) (rds_map_ofCell _) h
 refine .same (v := .agg D) g ?_ (Rds.agg r3) r2
 unfold uplaces at hpl
 split at hpl
 ·rename_i fs hu
  simp only [Option.map_eq_some_iff] at hpl
  obtain ⟨l, hl, rfl⟩ := hpl
  have hm := run_mapM_opt (P := P) (w := w) (fun f : Field => do pure (f.offset, ← sizeOf f.type)) (fun f => (usz P f.type).map fun n => (f.offset, n))
   (fun f b hb => by
    simp only [Option.map_eq_some_iff] at hb
    obtain ⟨n, hn, rfl⟩ := hb
    simp [run_size hn]) fs.toList l hl
  have hm' : (fs.mapM fun f : Field => (do pure (f.offset, ← sizeOf f.type) : Sem (Nat × Nat))).run P w = .ok l.toArray w := by
   rw [Array.mapM_eq_mapM_toList]
   simp only [Sem.run_map, hm, Result.andThen_ok]
  simp only [Instr.build, Sem.run_bind, hv, Result.andThen_ok, run_underlying hu, hm']
  have e : (fun i : Nat => l.toArray[i]?) = fun i => l[i]? := by funext i; simp
  simp [e, r1]
 ·rename_i n e hu
  simp only [Option.map_eq_some_iff] at hpl
  obtain ⟨m, hm, rfl⟩ := hpl
  simp only [Instr.build, Sem.run_bind, hv, Result.andThen_ok, run_underlying hu, run_size hm]
  simp [r1]
 ·simp at hpl

theorem zeros_get {z : Array Value} {n : Nat} : ((Array.range (n * z.size)).map (z[· % z.size]!)).toList = (List.replicate n z.toList).flatten := by
 apply List.ext_getElem?
 intro i
 by_cases hz : z.size = 0
 ·have : z = #[] := by simpa using hz
  subst this
  simp
 ·have hpos : 0 < z.size := by omega
  by_cases hi : i < n * z.size
  ·have hq : i / z.size < n := by rwa [Nat.div_lt_iff_lt_mul hpos]
   have hm : i % z.size < z.size := Nat.mod_lt _ hpos
   have hlhs : ((Array.range (n * z.size)).map (z[· % z.size]!)).toList[i]? = some z[i % z.size] := by
    simp [hi, hm]
   rw [hlhs]
   clear hlhs
   have key : ∀ (n i : Nat), i < n * z.size → (List.replicate n z.toList).flatten[i]? = some (z[i % z.size]'(Nat.mod_lt _ hpos)) := by
    intro n
    induction n with
    | zero => intro i h; omega
    | succ n ih =>
     intro i h
     rw [List.replicate_succ, List.flatten_cons, List.getElem?_append]
     by_cases hlt : i < z.size
     ·rw [if_pos (by simpa using hlt)]
      simp [Nat.mod_eq_of_lt hlt, hlt]
     ·rw [if_neg (by simpa using hlt)]
      have := ih (i - z.size) (by rw [Nat.succ_mul] at h; omega)
      simp only [Array.length_toList]
      rw [this]
      congr 2
      exact (Nat.mod_eq_sub_mod (by omega)).symm
   rw [key n i hi]
  ·rw [List.getElem?_eq_none (by simp; omega), List.getElem?_eq_none (by simp [List.length_flatten, List.sum_replicate_nat]; omega)]

theorem zeros_map (n : Nat) (us : List Value) : zeros n (us.map ofCell) = ((List.replicate n us).flatten).map ofCell := by
 simp [zeros, List.map_flatten]

theorem runs_newSlice {id n cap sz : Nat} {us rest : List Value} {xs : List V} {e : TypeId} (g : Good c rows w ro ρ) (hf : Free rows id) (h : Rds w ro ρ us xs) (hn : n ≤ cap) (hc : cap * sz ≤ us.length + rest.length)
  (hk : k (.osl id 0 n sz) (rput rows id (.live xs))) : OpOk c k w ro ρ (.slice (some ⟨w.heap.size, 0, none⟩) n cap) (w.alloc (.cells (us ++ rest).toArray e)) := by
 obtain ⟨g1, e1⟩ := g.newRow hf h rest e
 exact ⟨.osl id 0 n sz, _, ro, _, hk, g1, .osl (get_rput g hf _) (fun h => by cases h) (fun h => by cases h) hn (fun x hx => by cases hx; exact ⟨rfl, rfl, .inr rfl, hn, by simpa using hc⟩), e1⟩

theorem range0 (f : Nat → Value) : (Array.range 0).map f = #[] := Array.eq_empty_of_size_eq_zero (by simp)

theorem runs_abuildSlice {t : TypeId} {len id : Nat} {a : Operand → Value} {s : Operand → V} {parts : List (Nat × Operand)} (g : Good c rows w ro ρ) (hp : ∀ p ∈ parts, Rd w ro ρ (a p.2) (s p.2))
  (h : abuildSlice P t len s parts id rows k) : Runs P (Instr.buildSlice t len (parts.map fun p => (p.1, a p.2)).toArray) c k w ro ρ := by
 obtain ⟨e, sz, z, hu, hs, hz, hzl, hle, hf, h⟩ := h
 obtain ⟨v, hv, rfl, -⟩ := uzero_run (P := P) (w := w) hz
 have hvs : v.cells.size = sz := by simpa using hzl
 have hz0 : Rds w ro ρ ((Array.range (len * v.cells.size)).map (v.cells[· % v.cells.size]!)).toList (zeros len (v.cells.toList.map ofCell)) := by
  rw [zeros_get, zeros_map]
  exact rds_map_ofCell _
 obtain ⟨D, ds, r1, r2, r3⟩ := run_fill (place' := fun i => some (i * sz, sz)) parts _ _ hp (fun i q hq => hq) hz0 h
 have hcs : (Array.range (len * sz)).map (v.cells[· % v.cells.size]!) = (Array.range (len * v.cells.size)).map (v.cells[· % v.cells.size]!) := by rw [hvs]
 rw [← hcs] at r1
 have hD : D.size = len * sz := by
  have hfill : ∀ (l : List (Nat × Value)) (C D : Array Value) (pl : Nat → Option (Nat × Nat)), Instr.fill pl C l = some D → D.size = C.size := by
   intro l
   induction l with
   | nil => intro C D pl h; simp [Instr.fill] at h; rw [h]
   | cons p l ih =>
    intro C D pl h
    obtain ⟨i, u⟩ := p
    simp only [Instr.fill] at h
    split at h
    ·simp at h
    ·split at h
     ·simp at h
     ·rw [ih _ _ _ h]
      have : ∀ (l : List (Value × Nat)) (o : Nat) (C : Array Value), (l.foldl (fun cs (p : Value × Nat) => cs.setIfInBounds (o + p.2) p.1) C).size = C.size := by
       intro l
       induction l with
       | nil => intro o C; rfl
       | cons q l ih => intro o C; rw [List.foldl_cons, ih]; simp
      rw [← Array.foldl_toList]
      exact this _ _ _
  rw [hfill _ _ _ _ r1]
  simp
 refine ⟨_, _, ?_, runs_newSlice (e := e) (rest := []) (n := len) (cap := len) (us := D.toList) g hf r3 (Nat.le_refl _) (by simp [hD]) r2⟩
 have hle' : ¬ len * sz > 2 ^ 24 := by omega
 simp only [Instr.buildSlice, Sem.run_bind, run_underlying (uslice_under hu), Result.andThen_ok, run_size hs]
 rw [if_neg hle']
 by_cases h0 : len * sz = 0
 ·have hr0 : Instr.fill (fun i => some (i * sz, sz)) #[] (parts.map fun p => (p.1, a p.2)) = some D := by
   rw [← r1, h0, range0]
  simp only [h0, if_true]
  simp [range0, hr0, Go.newRow]
 ·simp [h0, hv, r1, Go.newRow]

theorem runs_amakeSlice {t : TypeId} {l m : V} {ul um : Value} {id : Nat} (g : Good c rows w ro ρ) (hl : Rd w ro ρ ul l) (hm : Rd w ro ρ um m) (h : amakeSlice P t l m id rows k) : Runs P (Instr.makeSlice t ul um) c k w ro ρ := by
 cases l with
 | int k1 l =>
  cases m with
  | int k2 m =>
   obtain rfl := rd_int hl
   obtain rfl := rd_int hm
   obtain ⟨e, sz, by', z, hu, hs, hb, hz, hzl, h0, h1, h2, h3, hf, hk⟩ := h
   obtain ⟨v, hv, rfl, i, hi⟩ := uzero_run (P := P) (w := w) hz
   have hvs : v.cells.size = sz := by simpa using hzl
   have hbi : i.bytes = by' := by simpa [ubytes, hi] using hb
   have hsi : i.size = sz := by simpa [usz, hi] using hs
   have w1 : IntKind.i64.wrap l = l := by simp [IntKind.wrap, IntKind.signed, IntKind.bits]; omega
   have w2 : IntKind.i64.wrap m = m := by simp [IntKind.wrap, IntKind.signed, IntKind.bits]; omega
   have hD : Rds w ro ρ ((Array.range (m.toNat * v.cells.size)).map (v.cells[· % v.cells.size]!)).toList (zeros m.toNat (v.cells.toList.map ofCell)) := by
    rw [zeros_get, zeros_map]
    exact rds_map_ofCell _
   refine ⟨_, _, ?_, runs_newSlice (e := e) (rest := []) (n := l.toNat) (cap := m.toNat) (sz := sz) (us := _) g hf hD (by omega) (by simp [hvs]) hk⟩
   have hnm : ¬ m < 0 := by omega
   have hnl : ¬ l < 0 := by omega
   have hnlm : ¬ m < l := by omega
   have hbig : ¬ (281474976710656 : Int) < by' * m := by omega
   by_cases hz0 : m.toNat * sz = 0
   ·have hemp : ((Array.range (m.toNat * v.cells.size)).map (v.cells[· % v.cells.size]!)) = #[] := by
     rw [hvs, hz0, range0]
    simp [Instr.makeSlice, run_underlying (uslice_under hu), asInt, asIntOf, typeInfo, sizeOf, hi, hbi, hsi, w1, w2, hnm, hnl, hnlm, hbig, hz0, Go.newRow, hemp]
    rw [range0]
   ·simp [Instr.makeSlice, run_underlying (uslice_under hu), asInt, asIntOf, typeInfo, sizeOf, hi, hbi, hsi, w1, w2, hnm, hnl, hnlm, hbig, hz0, Go.newRow, hv, hvs]
    congr 2
    apply Array.ext'
    simp
  | _ => exact False.elim h
 | _ => exact False.elim h

end
end Go.VS
set_option linter.all false
namespace Go.VS

def ORd (w : World) (ro : Nat → Prop) (ρ : Rho) : Option Value → Option V → Prop
 | none, none => True
 | some u, some x => Rd w ro ρ u x
 | _, _ => False

section
variable {P : Program} {c : Ctx} {rows : List Row} {w : World} {ro : Nat → Prop} {ρ : Rho} {k : KV}

theorem run_sliceBounds {lo hi : Option V} {ul uh : Option Value} {isS : Bool} {len cap : Nat} {K : Nat → Nat → Prop} (hl : ORd w ro ρ ul lo) (hh : ORd w ro ρ uh hi) (hc : len ≤ cap)
  (h : abound hi len fun h => abound lo 0 fun l => l ≤ h ∧ h ≤ len ∧ K l h) : ∃ l h, (Instr.sliceBounds isS len cap ul uh none).run P w = .ok (l, h, cap) w ∧ l ≤ h ∧ h ≤ len ∧ K l h := by
 have inner : ∀ q, abound lo 0 (fun l => l ≤ q ∧ q ≤ len ∧ K l q) → ∃ l, (∀ code, (match ul with | some v => Instr.sliceBound v q code | none => (pure 0 : Sem Nat)).run P w = .ok l w) ∧ l ≤ q ∧ q ≤ len ∧ K l q := by
  intro q hb
  cases lo with
  | none =>
   cases ul with
   | none => exact ⟨0, fun _ => rfl, hb⟩
   | some u => exact False.elim hl
  | some x =>
   cases ul with
   | none => exact False.elim hl
   | some u =>
    cases x with
    | int kd n =>
     obtain rfl := rd_int (show Rd w ro ρ u _ from hl)
     obtain ⟨h0, h1, h2⟩ := hb
     refine ⟨n.toNat, fun code => ?_, h1, h2⟩
     have : n ≤ q := by omega
     simp [Instr.sliceBound, asIntOf, h0, this]
    | _ => exact False.elim hb
 cases hi with
 | none =>
  cases uh with
  | none =>
   obtain ⟨l, r1, r2, r3, r4⟩ := inner len h
   refine ⟨l, len, ?_, r2, r3, r4⟩
   have := r1 .sliceB
   cases ul with
   | none => simp at this; subst this; simp [Instr.sliceBounds]
   | some u => simp only at this; simp [Instr.sliceBounds, this]
  | some u => exact False.elim hh
 | some x =>
  cases uh with
  | none => exact False.elim hh
  | some u =>
   cases x with
   | int kd n =>
    obtain rfl := rd_int (show Rd w ro ρ u _ from hh)
    obtain ⟨h0, h1⟩ := h
    obtain ⟨l, r1, r2, r3, r4⟩ := inner n.toNat h1
    refine ⟨l, n.toNat, ?_, r2, r3, r4⟩
    have hcap : n ≤ cap := by omega
    have hq : ∀ code, (Instr.sliceBound (.int kd n) cap code).run P w = .ok n.toNat w := fun code => by simp [Instr.sliceBound, asIntOf, h0, hcap]
    have := r1 .sliceB
    cases ul with
    | none => simp at this; subst this; cases isS <;> simp [Instr.sliceBounds, hq]
    | some u => simp only at this; cases isS <;> simp [Instr.sliceBounds, hq, this]
   | _ => exact False.elim h

theorem runs_aslice {t : TypeId} {x : V} {u : Value} {lo hi mx : Option V} {ul uh um : Option Value} (g : Good c rows w ro ρ) (hx : Rd w ro ρ u x) (hl : ORd w ro ρ ul lo) (hh : ORd w ro ρ uh hi) (hm : ORd w ro ρ um mx)
  (h : aslice P t x lo hi mx rows k) : Runs P (Instr.sliceAt t u ul uh um) c k w ro ρ := by
 obtain ⟨rfl, h⟩ := h
 cases um with
 | some u => exact False.elim hm
 | none =>
 cases x with
 | str s =>
  obtain ⟨hu, h⟩ := h
  obtain rfl := rd_str hx
  obtain ⟨l, e, r1, r2, r3, hk⟩ := run_sliceBounds (P := P) (isS := false) (cap := s.length) hl hh (Nat.le_refl _) h
  have hex : (⟨s.toArray⟩ : ByteArray).extract l e = ⟨((s.drop l).take (e - l)).toArray⟩ := by
   apply ByteArray.ext
   rw [ByteArray.data_extract]
   apply Array.ext'
   simp [List.take_drop]
  exact .same (v := .string ⟨((s.drop l).take (e - l)).toArray⟩) g (by simp [Instr.sliceAt, Instr.slice, run_underlying (ustr_under hu), str_size, r1, hex]) .str hk
 | nils =>
  obtain ⟨⟨e, hu, hs⟩, h⟩ := h
  obtain ⟨sz, hs⟩ := Option.isSome_iff_exists.1 hs
  obtain rfl := rd_nils hx
  obtain ⟨l, e, r1, r2, r3, hk⟩ := run_sliceBounds (P := P) (isS := true) (cap := 0) hl hh (Nat.le_refl _) h
  obtain rfl : e = 0 := by omega
  obtain rfl : l = 0 := by omega
  exact .same g (by simp [Instr.sliceAt, Instr.slice, run_underlying (uslice_under hu), r1, run_size hs]) .nils hk
 | sl n cs =>
  obtain ⟨e, sz, hu, hs, h⟩ := h
  rcases rd_sl hx with ⟨rfl, rfl, rfl⟩ | ⟨b, o, cap, rfl, hro, hcap, hat⟩ | ⟨a, cap, rfl, rfl, rfl⟩
  rotate_left 2
  ·obtain ⟨l, e, r1, r2, r3, hk⟩ := run_sliceBounds (P := P) (isS := true) (cap := cap) hl hh (Nat.zero_le _) h
   obtain rfl : e = 0 := by omega
   obtain rfl : l = 0 := by omega
   by_cases hc : cap = 0
   ·subst hc
    exact .same g (by simp [Instr.sliceAt, Instr.slice, run_underlying (uslice_under hu), r1, run_size hs]; exact ⟨rfl, rfl⟩) .slz (by simpa using hk)
   ·exact .same g (by simp [Instr.sliceAt, Instr.slice, run_underlying (uslice_under hu), r1, run_size hs, hc]; exact ⟨rfl, rfl⟩) .slz (by simpa using hk)
  ·obtain ⟨l, e, r1, r2, r3, hk⟩ := run_sliceBounds (P := P) (isS := true) (cap := 0) hl hh (Nat.le_refl _) h
   obtain rfl : e = 0 := by omega
   obtain rfl : l = 0 := by omega
   exact .same g (by simp [Instr.sliceAt, Instr.slice, run_underlying (uslice_under hu), r1, run_size hs]) .sl0 (by simpa using hk)
  ·obtain ⟨l, e, r1, r2, r3, hk⟩ := run_sliceBounds (P := P) (isS := true) (cap := cap) hl hh hcap h
   by_cases hcl : cap = l
   ·subst hcl
    have he : e = cap := by omega
    subst he
    refine .same (v := .slice (some ⟨b, o, none⟩) 0 0) g (by simp [Instr.sliceAt, Instr.slice, run_underlying (uslice_under hu), r1, run_size hs]) ?_ hk
    simp
    exact CellsAt.sl (fun i v hv => by simp at hv) hro (Nat.le_refl _)
   ·refine .same (v := .slice (some ⟨b, o + l * sz, none⟩) (e - l) (cap - l)) g (by simp [Instr.sliceAt, Instr.slice, run_underlying (uslice_under hu), r1, run_size hs, hcl, add_eq]) ?_ hk
    exact ((hat.drop _).take _).sl hro (by omega)
 | osl id off n sz =>
  obtain ⟨e, hu, hs, h⟩ := h
  cases hx with
  | osl0 q1 q2 q3 =>
   obtain ⟨l, e, r1, r2, r3, hk⟩ := run_sliceBounds (P := P) (isS := true) (cap := 0) hl hh (Nat.le_refl _) h
   obtain rfl : e = 0 := by omega
   obtain rfl : l = 0 := by omega
   exact .same g (by simp [Instr.sliceAt, Instr.slice, run_underlying (uslice_under hu), r1, run_size hs]) (.osl0 q1 q2 q3) (by simpa using hk)
  | @osl _ _ _ _ _ a cap y q1 q2 q3 qle q4 =>
   obtain ⟨l, e, r1, r2, r3, hk⟩ := run_sliceBounds (P := P) (isS := true) (cap := cap) hl hh qle h
   refine .same (v := .slice (some (if cap = l then a else a.add (l * sz))) (e - l) (cap - l)) g (by simp [Instr.sliceAt, Instr.slice, run_underlying (uslice_under hu), r1, run_size hs]; split <;> rfl) ?_ hk
   refine .osl q1 q2 q3 (by omega) fun x hx => ?_
   obtain ⟨e1, e2, e3, e4, e5⟩ := q4 x hx
   obtain ⟨b, o, s⟩ := a
   simp at e1 e2 e3 e5
   subst e1; subst e2
   have hmul : cap * sz = l * sz + (cap - l) * sz := by rw [← Nat.add_mul, show l + (cap - l) = cap by omega]
   by_cases hcl : cap = l
   ·rw [if_pos hcl]
    refine ⟨rfl, rfl, .inl (by omega), by omega, ?_⟩
    show o + _ ≤ _
    omega
   ·rw [if_neg hcl, add_eq]
    refine ⟨rfl, rfl, ?_, by omega, ?_⟩
    ·show cap - l = 0 ∨ o + l * sz = _
     omega
    ·show o + l * sz + _ ≤ _
     omega
 | ref id off =>
  obtain ⟨n, e, sz, cs, hu, hs, hlv, hle, hne, h⟩ := h
  obtain ⟨x, hx', hat, rfl⟩ := rd_ref g hx hlv
  obtain ⟨l, e, r1, r2, r3, hk⟩ := run_sliceBounds (P := P) (isS := false) (cap := n) hl hh (Nat.le_refl _) h
  obtain ⟨C, t, fr, p1, p2, p3, p4, p5⟩ := hat
  refine .same (v := .slice (some (if n = l then ⟨x.b, x.o + off, none⟩ else ⟨x.b, x.o + off + l * sz, none⟩)) (e - l) (n - l)) g (by simp [Instr.sliceAt, Instr.sureAddr, run_underlying (uarr_under hu), r1, run_size hs, add_eq]) ?_ hk
  refine .osl hx' (fun h => by cases h) (fun h => by cases h) (by omega) fun y hy => ?_
  cases hy
  have hmul : n * sz = l * sz + (n - l) * sz := by rw [← Nat.add_mul, show l + (n - l) = n by omega]
  refine ⟨by split <;> rfl, by split <;> rfl, ?_, by omega, ?_⟩
  ·by_cases hcl : n = l
   ·left; omega
   ·right; rw [if_neg hcl]; show x.o + off + l * sz = _; omega
  ·split
   ·show x.o + off + _ ≤ _
    rename_i hcl
    subst hcl
    simp; omega
   ·show x.o + off + l * sz + _ ≤ _
    omega
 | _ => exact False.elim h


theorem run_shown' {sz : Nat} {x : V} {u : Value} {K : Nat → List V → Prop} (g : Good c rows w ro ρ) (hx : Rd w ro ρ u x) (h : ashown sz x rows K) :
  ∃ n cs us, K n cs ∧ (Builtin.lenOf u).run P w = .ok n w ∧ (∀ w', w'.heap = w.heap → (Builtin.firstCells sz n u).run P w' = .ok us w') ∧ Rds w ro ρ us.toList cs ∧ us.size = n * sz := by
 have nilc : ∀ {K : Nat → List V → Prop}, K 0 [] → ∃ n cs us, K n cs ∧ (Builtin.lenOf (.slice none 0 0)).run P w = .ok n w ∧ (∀ w', w'.heap = w.heap → (Builtin.firstCells sz n (.slice none 0 0)).run P w' = .ok us w') ∧ Rds w ro ρ us.toList cs ∧ us.size = n * sz :=
  fun h => ⟨0, [], #[], h, rfl, fun _ _ => rfl, ⟨rfl, fun i u x hu => by simp at hu⟩, by simp⟩
 cases x with
 | nils => obtain rfl := rd_nils hx; exact nilc h
 | sl n cs =>
  obtain ⟨hlen, hk⟩ := h
  rcases rd_sl hx with ⟨rfl, rfl, rfl⟩ | ⟨b, o, cap, rfl, hro, hcap, hat⟩ | ⟨a, cap, rfl, rfl, rfl⟩
  ·exact nilc hk
  rotate_left
  ·exact ⟨0, [], #[], hk, rfl, fun _ _ => by simp [Builtin.firstCells, loadCells]; rfl, ⟨rfl, fun i u x hu => by simp at hu⟩, by simp⟩
  ·obtain ⟨us, r1, r2⟩ := run_loadCells_at' (P := P) hat
   rw [hlen] at r1
   exact ⟨n, cs, us.toArray, hk, rfl, r1, ⟨by simpa using r2.1, fun i u x hu hx => (r2.2 i u x (by simpa using hu) hx).ofNil⟩, by have := r2.1; simp; omega⟩
 | osl id off n sz' =>
  obtain ⟨rfl, cs, hl, hle, hk⟩ := h
  rcases rd_osl g hx hl with ⟨rfl, rfl, rfl, -⟩ | ⟨y, o, cap, hy, hat, rfl, ho, hn, hm⟩
  ·exact nilc (by simpa [sliceCells] using hk)
  ·by_cases hc0 : cap = 0
   ·subst hc0
    obtain rfl : n = 0 := by omega
    exact ⟨0, [], #[], by simpa [sliceCells] using hk, rfl, fun _ _ => by simp [Builtin.firstCells, loadCells, loadCellsFrom], ⟨rfl, fun i u x hu => by simp at hu⟩, by simp⟩
   ·obtain rfl : o = y.o + off := by omega
    have hat' : CellsAt w ro ρ y.b (y.o + off) (sliceCells cs off (n * sz')) := (hat.cellsAt.drop off).take _
    obtain ⟨us, r1, r2⟩ := run_loadCells_at' (P := P) hat'
    have hlen : (sliceCells cs off (n * sz')).length = n * sz' := by simp [sliceCells]; omega
    rw [hlen] at r1
    exact ⟨n, _, us.toArray, hk, rfl, r1, by simpa using r2, by have := r2.1; simp; omega⟩
 | str s =>
  obtain ⟨rfl, hk⟩ := h
  obtain rfl := rd_str hx
  have hex : (⟨s.toArray⟩ : ByteArray).extract 0 s.length = ⟨s.toArray⟩ := by
   apply ByteArray.ext
   rw [ByteArray.data_extract]
   apply Array.ext'
   simp
  refine ⟨s.length, _, _, hk, by simp [Builtin.lenOf, str_size], fun _ _ => by simp [Builtin.firstCells, hex]; rfl, ⟨by simp, fun i u x hu hx => ?_⟩, by simp⟩
  simp at hu hx
  obtain ⟨b, hb, rfl⟩ := hu
  obtain ⟨b', hb', rfl⟩ := hx
  rw [hb] at hb'
  simp at hb'
  subst hb'
  exact .int
 | val v =>
  obtain ⟨⟨a, cap, rfl⟩, hk⟩ := h
  cases hx
  exact ⟨0, [], #[], hk, rfl, fun _ _ => by simp [Builtin.firstCells, loadCells]; rfl, ⟨rfl, fun i u x hu => by simp at hu⟩, by simp⟩
 | _ => exact False.elim h

theorem run_shown {sz : Nat} {x : V} {u : Value} {K : Nat → List V → Prop} (g : Good c rows w ro ρ) (hx : Rd w ro ρ u x) (h : ashown sz x rows K) :
  ∃ n cs us, K n cs ∧ (Builtin.lenOf u).run P w = .ok n w ∧ (Builtin.firstCells sz n u).run P w = .ok us w ∧ Rds w ro ρ us.toList cs ∧ us.size = n * sz := by
 obtain ⟨n, cs, us, h1, h2, h3, h4⟩ := run_shown' (P := P) g hx h
 exact ⟨n, cs, us, h1, h2, h3 w rfl, h4⟩


theorem rds_bytes : ∀ {us : List Value} {cs : List V}, Rds w ro ρ us cs → (∀ x ∈ cs, x.isByte = true) → ∃ ns : List Int, us = ns.map (Value.int .u8) ∧ cs.map toByte = ns.map fun n => UInt8.ofNat n.toNat
 | [], [], _, _ => ⟨[], rfl, rfl⟩
 | [], _ :: _, h, _ => by simp [Rds] at h
 | _ :: _, [], h, _ => by simp [Rds] at h
 | u :: us, x :: cs, h, hb => by
  obtain ⟨ns, r1, r2⟩ := rds_bytes (us := us) (cs := cs) ⟨by simpa using h.1, fun i a b ha hb => h.2 (i + 1) a b (by simpa using ha) (by simpa using hb)⟩ (fun y hy => hb y (by simp [hy]))
  have hx := h.2 0 u x rfl rfl
  have hxb := hb x (by simp)
  cases x with
  | int kd n =>
   cases kd <;> simp [V.isByte] at hxb
   obtain rfl := rd_int hx
   exact ⟨n :: ns, by simp [r1], by simp [toByte, r2]⟩
  | _ => simp [V.isByte] at hxb

theorem fold_push : ∀ (ns : List Int) (s : ByteArray), ns.foldl (fun r n => r.push (UInt8.ofNat n.toNat)) s = ⟨s.data ++ (ns.map fun n => UInt8.ofNat n.toNat).toArray⟩
 | [], s => by simp
 | n :: ns, s => by
  rw [List.foldl_cons, fold_push ns]
  apply ByteArray.ext
  apply Array.ext'
  simp [ByteArray.data_push]

theorem runs_bytesToString {u : Value} {x : V} (g : Good c rows w ro ρ) (hx : Rd w ro ρ u x) (hs : ∀ s, x ≠ .str s) (h : ashown 1 x rows fun _ cs => (∀ b ∈ cs, b.isByte = true) ∧ k (.str (cs.map toByte)) rows) : Runs P (Conv.bytesToString u) c k w ro ρ := by
 obtain ⟨n, cs, us, ⟨hb, hk⟩, r1, r2, r3, r4⟩ := run_shown (P := P) g hx h
 obtain ⟨ns, e1, e2⟩ := rds_bytes r3 hb
 have hus : us = (ns.map (Value.int .u8)).toArray := by apply Array.ext'; simpa using e1
 have hstr : Rd w ro ρ (.string ⟨(ns.map fun n => UInt8.ofNat n.toNat).toArray⟩) (.str (cs.map toByte)) := by rw [e2]; exact .str
 have hu : (∃ a n' cap, u = .slice (some a) n' cap) ∨ u = .slice none 0 0 := by
  cases hx <;> first | exact .inr rfl | exact .inl ⟨_, _, _, rfl⟩ | exact False.elim h | (obtain ⟨⟨a, c, rfl⟩, -⟩ := h; exact .inl ⟨_, _, _, rfl⟩) | exact absurd rfl (hs _)
 rcases hu with ⟨a, n', cap, rfl⟩ | rfl
 ·simp [Builtin.lenOf] at r1
  subst r1
  simp [Builtin.firstCells] at r2
  rw [hus] at r2
  have := run_bytesToString (P := P) w a n' cap ns r2
  refine .same g this ?_ hk
  rw [fold_push]
  simpa using hstr
 ·simp [Builtin.lenOf] at r1
  subst r1
  simp [Builtin.firstCells] at r2
  rw [r2] at hus
  have : ns = [] := by cases ns <;> simp_all
  subst this
  refine .same (v := .string ByteArray.empty) g (by simp [Conv.bytesToString]) ?_ hk
  exact hstr

theorem World.freeze_heap (w : World) (a : Addr) (n k : Nat) (hk : k ≠ a.block) : (w.freeze a n).heap[k]? = w.heap[k]? := by
 unfold World.freeze
 split
 ·rfl
 ·simp only [Array.getElem?_modify]
  rw [if_neg (fun h => hk h.symm)]

theorem set_self {α : Type} {l : List α} {i : Nat} {x : α} (h : l[i]? = some x) : l.set i x = l := by
 apply List.ext_getElem?
 intro j
 rw [List.getElem?_set]
 split
 ·rename_i e; subst e; rw [h]; simp [(List.getElem?_eq_some_iff.1 h).1]
 ·rfl

theorem Good.freeLe' (g : Good c rows w ro ρ) {id : Nat} (hf : Free rows id) : id ≤ rows.length := by rw [← g.len]; exact g.freeLe hf

theorem runs_stringToBytes {s : List UInt8} {e : TypeId} {id : Nat} (g : Good c rows w ro ρ) (hf : Free rows id) (hk : k (.osl id 0 s.length 1) (rput rows id (.live (s.map byteV)))) :
  Runs P (Conv.stringToBytes e ⟨s.toArray⟩) c k w ro ρ := by
 obtain ⟨g1, e1⟩ := g.drew (w.drawn + 1)
 generalize hcap : (Question.appendCap s.length 0 e).cut (w.tape w.drawn (.appendCap s.length 0 e)) = cap
 have hle : s.length ≤ cap := by rw [← hcap]; simp [Question.cut]
 have hr0 : Rds { w with drawn := w.drawn + 1 } ro ρ (s.map fun b => Value.int .u8 b.toNat) (s.map byteV) := ⟨by simp, fun i u x hu hx => by
  simp at hu hx
  obtain ⟨b, hb, rfl⟩ := hu
  obtain ⟨b', hb', rfl⟩ := hx
  rw [hb] at hb'
  simp at hb'
  subst hb'
  exact .int⟩
 obtain ⟨g2, e2⟩ := g1.newRow hf hr0 (List.replicate (cap - s.length) (.int .u8 0)) e
 have hlen : (s.map fun b => Value.int .u8 b.toNat).length + (List.replicate (cap - s.length) (Value.int .u8 0)).length = cap := by simp; omega
 rw [hlen] at g2 e2
 generalize hw1 : World.alloc { w with drawn := w.drawn + 1 } (.cells ((s.map fun b => Value.int .u8 b.toNat) ++ List.replicate (cap - s.length) (Value.int .u8 0)).toArray e) = w1 at g2 e2
 have hb : w1.heap[w.heap.size]? = some (.cells ((s.map fun b => Value.int .u8 b.toNat) ++ List.replicate (cap - s.length) (Value.int .u8 0)).toArray e) := by rw [← hw1]; simp [World.alloc]
 have hsz : ((s.map fun b => Value.int .u8 b.toNat) ++ List.replicate (cap - s.length) (Value.int .u8 0)).toArray.size = cap := by simp; omega
 have hgr : (rput ρ id (.on ⟨w.heap.size, 0, cap⟩))[id]? = some (.on ⟨w.heap.size, 0, cap⟩) := get_rput g hf _
 have hrw : (rput rows id (.live (s.map byteV)))[id]? = some (.live (s.map byteV)) := by rw [rput_get (g.freeLe' hf), if_pos rfl]
 have hfz : (w1.freeze ⟨w.heap.size, cap, none⟩ 1).heap[w.heap.size]? = some (.cells ((s.map fun b => Value.int .u8 b.toNat) ++ List.replicate (cap - s.length) (Value.int .u8 0)).toArray e (cap, cap + 1)) := by
  unfold World.freeze
  rw [if_neg (by omega)]
  simp [Array.getElem?_modify, hb]
 have hst := g2.store (w' := w1.freeze ⟨w.heap.size, cap, none⟩ 1) hrw hgr (by simp [World.freeze]) (by simp [World.freeze]) (by simp [World.freeze]) (by simp [World.freeze]) (fun b hb => World.freeze_heap _ _ _ _ hb) (ds := s.map byteV)
  (fun hext => by
   obtain ⟨cs', h1, h2⟩ := g2.alive hgr
   rw [hrw] at h1
   simp at h1
   subst h1
   obtain ⟨C, t, fr, q1, q2, q3, q4, q5⟩ := h2
   rw [hb] at q1
   simp at q1
   obtain ⟨rfl, rfl, rfl⟩ := q1
   exact ⟨_, _, _, hfz, q2, (fun i hi => by simp at hi ⊢; omega), q4, fun i v hv => by
    obtain ⟨u, hu, hr⟩ := q5 i v hv
    exact ⟨u, hu, hr.ext hext⟩⟩)
 rw [set_self hrw] at hst
 obtain ⟨g3, e3⟩ := hst
 refine ⟨.slice (some ⟨w.heap.size, 0, none⟩) s.length cap, w1.freeze ⟨w.heap.size, cap, none⟩ 1, ?_, .osl id 0 s.length 1, _, ro, _, hk, g3, ?_, (e1.trans e2).trans e3⟩
 ·have hsh : w1.shape? w.heap.size = some (e, cap) := by simp only [World.shape?, hb, hsz]
  have hsz' : (⟨s.toArray⟩ : ByteArray).size = s.length := str_size s
  have hwd : w.drew = { w with drawn := w.drawn + 1 } := rfl
  have hrep : (Array.map (fun b : UInt8 => Value.int .u8 b.toNat) s.toArray ++ Array.replicate (cap - s.length) (Value.int .u8 0)) = ((s.map fun b => Value.int .u8 b.toNat) ++ List.replicate (cap - s.length) (Value.int .u8 0)).toArray := by
   apply Array.ext'
   simp
  simp only [Conv.stringToBytes, hsz', Sem.run_bind, run_choose_drew, Question.forced, Bool.false_eq_true, if_false, Result.andThen_ok, hcap, hrep, Go.newRow, run_newObj_alloc, Sem.run_pure, hwd, hw1, markStringish, run_shape]
  have hsz2 : (World.heap { w with drawn := w.drawn + 1 }).size = w.heap.size := rfl
  simp only [hsz2, hsh, run_freeze, Result.andThen_ok]
 ·exact .osl hgr (fun h => by cases h) (fun h => by cases h) hle (fun x hx => by cases hx; exact ⟨rfl, rfl, .inr rfl, hle, by simp⟩)

theorem runs_aconv {s d : TypeId} {x : V} {u : Value} {id : Nat} (g : Good c rows w ro ρ) (hx : Rd w ro ρ u x) (h : aconv P s d x id rows k) : Runs P (convert s d u) c k w ro ρ := by
 have other : (ustr P d = true ∧ (∃ e, uslice P s = some e ∧ uint P e = some .u8) ∧ ashown 1 x rows fun _ cs => (∀ c ∈ cs, c.isByte = true) ∧ k (.str (cs.map toByte)) rows) → (∀ s, x ≠ .str s) → Runs P (convert s d u) c k w ro ρ := by
  rintro ⟨hd, ⟨e, hs, he⟩, h⟩ hns
  obtain ⟨v, w', hr, hok⟩ := runs_bytesToString (P := P) g hx hns h
  have hu : ∃ a n cap, u = .slice a n cap := by
   cases hx <;> first | exact ⟨_, _, _, rfl⟩ | exact False.elim h | (obtain ⟨⟨a, c, rfl⟩, -⟩ := h; exact ⟨_, _, _, rfl⟩) | exact absurd rfl (hns _)
  obtain ⟨a, n, cap, rfl⟩ := hu
  exact ⟨v, w', by rw [run_convert_bytes_string w s d e a n cap (uslice_under hs) (uint_under he) (ustr_under hd)]; exact hr, hok⟩
 cases x with
 | int kd n =>
  obtain ⟨kd', hd, hs, hk⟩ := h
  obtain rfl := rd_int hx
  obtain ⟨ds, hs⟩ := Option.isSome_iff_exists.1 hs
  exact .same g (by simp [convert, run_underlying hs, run_underlying (uint_under hd), Conv.intToInt]) .int hk
 | str l =>
  obtain rfl := rd_str hx
  obtain ⟨hs, h⟩ := h
  obtain ⟨ds, hs⟩ := Option.isSome_iff_exists.1 hs
  split at h
  ·rename_i hd
   exact .same g (by simp [convert, run_underlying hs, run_underlying (ustr_under hd)]) .str h
  ·obtain ⟨e, hd, he, hf, hk⟩ := h
   obtain ⟨v, w', hr, hok⟩ := runs_stringToBytes (P := P) (e := e) g hf hk
   exact ⟨v, w', by simpa [convert, run_underlying hs, run_underlying (uslice_under hd), run_underlying (uint_under he)] using hr, hok⟩
 | _ => exact other h (fun s h => by cases h)


theorem growBy_le (m : Nat) : ∀ (r q : Nat), 256 ≤ q → q ≤ 2 * m → Builtin.growBy m r q ≤ 2 * m
 | 0, q, _, h => h
 | r + 1, q, h1, h2 => by
  unfold Builtin.growBy
  split
  ·exact h2
  ·exact growBy_le m r _ (by omega) (by omega)

theorem nextslicecap_le {m q : Nat} (h : q < m) : Builtin.nextslicecap m q ≤ 2 * m := by
 unfold Builtin.nextslicecap
 split
 ·omega
 ·split
  ·omega
  ·exact growBy_le m 4 q (by omega) (by omega)

theorem Rds.append {us vs : List Value} {xs ys : List V} (h : Rds w ro ρ us xs) (h' : Rds w ro ρ vs ys) : Rds w ro ρ (us ++ vs) (xs ++ ys) :=
 ⟨by simp [h.1, h'.1], fun i u x hu hx => by
  rw [List.getElem?_append] at hu hx
  rw [← h.1] at hx
  split at hu <;> rename_i hi
  ·rw [if_pos hi] at hx; exact h.2 i u x hu hx
  ·rw [if_neg hi] at hx; exact h'.2 _ u x hu hx⟩

theorem append_grow {t t' ty e : TypeId} {sz by' n m cap : Nat} {z : List V} {base : Option Addr} {ux : Value} {old new : List V} {id : Nat} (hu : uslice P t = some e) (hs : usz P e = some sz) (hb : ubytes P e = some by')
  (hz : uzero P e = some z) (hzl : z.length = sz) (ht : (uslice P t').isSome = true ∨ ustr P t' = true) (hb1 : (n + m) * by' ≤ 140737488355328) (hb2 : n + m ≤ 1099511627776) (hnc : cap < n + m)
  (hln : (Builtin.lenOf ux).run P w = .ok m w)
  (hnew : ∀ q, ∃ us, (Builtin.firstCells sz m ux).run P { w with drawn := q } = .ok us { w with drawn := q } ∧ Rds { w with drawn := q } ro ρ us.toList new ∧ us.size = m * sz)
  (hold : ∀ q, ∃ us, (Builtin.firstCells sz n (.slice base n cap)).run P { w with drawn := q } = .ok us { w with drawn := q } ∧ Rds { w with drawn := q } ro ρ us.toList old ∧ us.size = n * sz)
  (g : Good c rows w ro ρ) (hf : Free rows id) (hk : k (.osl id 0 (n + m) sz) (rput rows id (.live (old ++ new)))) :
  Runs P (Builtin.append_ #[t, t'] ty #[.slice base n cap, ux]) c k w ro ρ := by
 obtain ⟨v, hv, rfl, i, hi⟩ := uzero_run (P := P) (w := { w with drawn := w.drawn + 1 }) hz
 have hvs : v.cells.size = sz := by simpa using hzl
 have hbi : i.bytes = by' := by simpa [ubytes, hi] using hb
 have hsi : i.size = sz := by simpa [usz, hi] using hs
 obtain ⟨uo, ho1, ho2, ho3⟩ := hold (w.drawn + 1)
 obtain ⟨un, hn1, hn2, hn3⟩ := hnew (w.drawn + 1)
 generalize hcap : (Question.appendCap (n + m) cap e).cut (w.tape w.drawn (.appendCap (n + m) cap e)) = nc
 have hle : n + m ≤ nc := by rw [← hcap]; simp [Question.cut]
 obtain ⟨g1, e1⟩ := g.drew (w.drawn + 1)
 have hOk := runs_newSlice (k := k) (e := e) (n := n + m) (cap := nc) (sz := sz) (rest := (Builtin.zeroCells v.cells (nc - (n + m))).toList) g1 hf (ho2.append hn2) hle
  (by simp [Builtin.zeroCells, hvs, ho3, hn3]; rw [← Nat.add_mul, ← Nat.add_mul]; exact Nat.le_of_eq (by congr 1; omega)) hk
 obtain ⟨r, rows', ro', ρ', q1, q2, q3, q4⟩ := hOk
 refine ⟨_, _, ?_, r, rows', ro', ρ', q1, q2, q3, e1.trans q4⟩
 have hcapN := nextslicecap_le hnc
 have hbig : ¬ 2 ^ 48 < Builtin.nextslicecap (n + m) cap * by' := by
  have h2 : Builtin.nextslicecap (n + m) cap * by' ≤ 2 * (n + m) * by' := Nat.mul_le_mul_right _ hcapN
  rw [Nat.mul_assoc] at h2
  omega
 have hmax : ¬ (IntKind.i64.max < ((n + m : Nat) : Int)) := by simp [IntKind.max, IntKind.signed, IntKind.bits]; omega
 have hnle : ¬ (n + m ≤ cap) := by omega
 have hwd : w.drew = { w with drawn := w.drawn + 1 } := rfl
 have hsz2 : (World.heap { w with drawn := w.drawn + 1 }).size = w.heap.size := rfl
 have harr : uo ++ un ++ Builtin.zeroCells v.cells (nc - (n + m)) = (uo.toList ++ un.toList ++ (Builtin.zeroCells v.cells (nc - (n + m))).toList).toArray := by
  apply Array.ext'
  simp
 have hfc : Question.forced (.appendCap (n + m) cap e) = false := rfl
 have key : ∀ dt, P.underlying t' = some dt → (dt = .string ∨ ∃ e', dt = .slice e') → (Builtin.append_ #[t, t'] ty #[.slice base n cap, ux]).run P w =
   .ok (.slice (some ⟨w.heap.size, 0, none⟩) (n + m) nc) ((World.alloc { w with drawn := w.drawn + 1 }) (.cells (uo.toList ++ un.toList ++ (Builtin.zeroCells v.cells (nc - (n + m))).toList).toArray e)) := by
  intro dt hdt hk
  rcases hk with rfl | ⟨e', rfl⟩ <;>
  simp only [Builtin.append_, List.getElem?_toArray, List.getElem?_cons_zero, List.getElem?_cons_succ, Sem.run_bind, run_underlying (uslice_under hu), Result.andThen_ok, run_size hs, run_underlying hdt, Sem.run_pure,
   Bool.false_eq_true, if_false, hln, Bool.not_false, if_true, hnle, typeInfo, run_program, hi, hbi, hbig, hmax, false_and, run_choose_drew, hfc, hcap, hwd, run_askRoom, ho1, hn1, hv, Go.newRow, run_newObj_alloc, hsz2, harr, gt_iff_lt, Sem.run_ite]
 rcases ht with ht | ht
 ·obtain ⟨e', he'⟩ := Option.isSome_iff_exists.1 ht
  exact key _ (uslice_under he') (.inr ⟨_, rfl⟩)
 ·exact key _ (ustr_under ht) (.inl rfl)

end
end Go.VS
set_option linter.all false
namespace Go.VS

section
variable {P : Program} {c : Ctx} {rows : List Row} {w : World} {ro : Nat → Prop} {ρ : Rho} {k : KV}

theorem run_append_fits {t t' ty e : TypeId} {sz n m cap : Nat} {base : Option Addr} {ux : Value} {un : Array Value} (hu : uslice P t = some e) (hs : usz P e = some sz) (ht : (uslice P t').isSome = true ∨ ustr P t' = true)
  (hln : (Builtin.lenOf ux).run P w = .ok m w) (hnew : (Builtin.firstCells sz m ux).run P w = .ok un w) (hle : n + m ≤ cap) {w' : World}
  (hst : ∀ a, base = some a → (storeCells (a.add (n * sz)) un.toList).run P w = .ok () w') (hbn : base = none → w' = w) :
  (Builtin.append_ #[t, t'] ty #[.slice base n cap, ux]).run P w = .ok (.slice base (n + m) cap) w' := by
 have key : ∀ dt, P.underlying t' = some dt → (dt = .string ∨ ∃ e', dt = .slice e') → (Builtin.append_ #[t, t'] ty #[.slice base n cap, ux]).run P w = .ok (.slice base (n + m) cap) w' := by
  intro dt hdt hk
  cases base with
  | none =>
   rw [hbn rfl]
   rcases hk with rfl | ⟨e', rfl⟩ <;>
   simp only [Builtin.append_, List.getElem?_toArray, List.getElem?_cons_zero, List.getElem?_cons_succ, Sem.run_bind, run_underlying (uslice_under hu), Result.andThen_ok, run_size hs, run_underlying hdt, Sem.run_pure,
    Bool.false_eq_true, if_false, hln, Bool.not_false, if_true, hle, hnew, Sem.run_ite]
  | some a =>
   rcases hk with rfl | ⟨e', rfl⟩ <;>
   simp only [Builtin.append_, List.getElem?_toArray, List.getElem?_cons_zero, List.getElem?_cons_succ, Sem.run_bind, run_underlying (uslice_under hu), Result.andThen_ok, run_size hs, run_underlying hdt, Sem.run_pure,
    Bool.false_eq_true, if_false, hln, Bool.not_false, if_true, hle, hnew, Sem.run_ite, hst a rfl]
 rcases ht with ht | ht
 ·obtain ⟨e', he'⟩ := Option.isSome_iff_exists.1 ht
  exact key _ (uslice_under he') (.inr ⟨_, rfl⟩)
 ·exact key _ (ustr_under ht) (.inl rfl)

theorem Free.dead {id id0 : Nat} {cs : List V} (hf : Free rows id) (hl : rows[id0]? = some (.live cs)) : Free (rows.set id0 .dead) id := by
 rcases hf with hf | hf
 ·exact .inl (by simpa using hf)
 ·right
  rw [List.getElem?_set]
  split
  ·rename_i h; subst h; rw [hl] at hf; simp at hf
  ·exact hf

theorem runs_aappend {t t' ty : TypeId} {s x : V} {us ux : Value} {id : Nat} (g : Good c rows w ro ρ) (hs : Rd w ro ρ us s) (hx : Rd w ro ρ ux x) (ht : (uslice P t').isSome = true ∨ ustr P t' = true)
  (h : aappend P t s x id rows k) : Runs P (Builtin.append_ #[t, t'] ty #[us, ux]) c k w ro ρ := by
 obtain ⟨e, sz, by', z, hu, hsz, hb, hz, hzl, h⟩ := h
 obtain ⟨m, new, un, ⟨hone, hk⟩, r1, r2, r3, r4⟩ := run_shown' (P := P) g hx h
 have hnewq : ∀ q, ∃ us, (Builtin.firstCells sz m ux).run P { w with drawn := q } = .ok us { w with drawn := q } ∧ Rds { w with drawn := q } ro ρ us.toList new ∧ us.size = m * sz :=
  fun q => ⟨un, r2 _ rfl, r3.ext (g.drew q).2, r4⟩
 cases s with
 | nils =>
  obtain ⟨hb1, hb2, hf, hk⟩ := hk
  obtain rfl := rd_nils hs
  by_cases hm : m = 0
  ·subst hm
   have hnew0 : new = [] := by
    have := r3.1
    simp [r4] at this
    exact List.eq_nil_of_length_eq_zero this.symm
   subst hnew0
   have hun : un = #[] := Array.eq_empty_of_size_eq_zero (by simpa using r4)
   have hrun := run_append_fits (P := P) (w := w) (ty := ty) (n := 0) (cap := 0) (base := none) (w' := w) hu hsz ht r1 (r2 w rfl) (by omega) (fun a ha => by cases ha) (fun _ => rfl)
   obtain ⟨g1, e1⟩ := g.add' (p := .virt) (cs := []) hf (.inr ⟨rfl, rfl⟩)
   exact ⟨_, _, hrun, .osl id 0 0 sz, _, ro, _, hk, g1, .osl0 (get_rput g hf _) (fun h => by cases h) (fun x h => by cases h), e1⟩
  ·have := append_grow (P := P) (ty := ty) (n := 0) (cap := 0) (base := none) (old := []) hu hsz hb hz hzl ht (by simpa using hb1) (by simpa using hb2) (by omega) r1 hnewq
    (fun q => ⟨#[], rfl, ⟨rfl, fun i u x hu => by simp at hu⟩, by simp⟩) g hf (by simpa using hk)
   simpa using this
 | osl id0 off n sz' =>
  obtain ⟨rfl, hb1, hb2, hf, cs, hl, hle, hk⟩ := hk
  have hdead := hf.dead hl
  obtain ⟨g1, e1⟩ := g.kill hl
  rcases rd_osl g hs hl with ⟨rfl, rfl, rfl, hvirt⟩ | ⟨y, o, cap, hy, hat, rfl, ho, hn, hm⟩
  ·
   by_cases hm : m = 0
   ·subst hm
    have hnew0 : new = [] := by
     have := r3.1
     simp [r4] at this
     exact List.eq_nil_of_length_eq_zero this.symm
    subst hnew0
    have hrun := run_append_fits (P := P) (w := w) (ty := ty) (n := 0) (cap := 0) (base := none) (w' := w) hu hsz ht r1 (r2 w rfl) (by omega) (fun a ha => by cases ha) (fun _ => rfl)
    obtain ⟨g2, e2⟩ := g1.add' (p := .virt) (cs := []) hdead (.inr ⟨rfl, rfl⟩)
    exact ⟨_, _, hrun, .osl id 0 0 sz', _, ro, _, by simpa [sliceCells] using hk, g2, .osl0 (get_rput g1 hdead _) (fun h => by cases h) (fun x h => by cases h), e1.trans e2⟩
   ·have := append_grow (P := P) (ty := ty) (n := 0) (cap := 0) (base := none) (old := []) (rows := rows.set id0 .dead) (ρ := ρ.set id0 .dead) hu hsz hb hz hzl ht hb1 hb2 (by omega) r1
     (fun q => by obtain ⟨us, q1, q2, q3⟩ := hnewq q; exact ⟨us, q1, q2.ext ⟨fun _ h => h, fun _ _ => rfl, e1.own⟩, q3⟩)
     (fun q => ⟨#[], rfl, ⟨rfl, fun i u x hu => by simp at hu⟩, by simp⟩) g1 hdead (by simpa [sliceCells] using hk)
    obtain ⟨v, w', p1, r, rows', ro', ρ', p2, p3, p4, p5⟩ := this
    exact ⟨v, w', p1, r, rows', ro', ρ', p2, p3, p4, e1.trans p5⟩
  ·have hlt0 : id0 < ρ.length := (List.getElem?_eq_some_iff.1 hy).1
   have hnoρ : ∀ (j : Nat) x, (ρ.set id0 .dead)[j]? = some (.on x) → x.b ≠ y.b := by
    intro j x hj hb
    rw [List.getElem?_set] at hj
    split at hj
    ·simp at hj
    ·rename_i hne
     exact hne (g.inj id0 j y x hy hj hb.symm)
   have hold : ∃ uo : List Value, (∀ w', w'.heap = w.heap → (Builtin.firstCells sz' n (.slice (some ⟨y.b, o, none⟩) n cap)).run P w' = .ok uo.toArray w') ∧ Rds w ro ρ uo (sliceCells cs off (n * sz')) ∧ uo.length = n * sz' := by
    obtain ⟨n', cs', us, ⟨e1, e2⟩, q1, q2, q3, q4⟩ := run_shown' (P := P) (sz := sz') (K := fun a b => a = n ∧ b = sliceCells cs off (n * sz')) g hs ⟨rfl, cs, hl, hle, rfl, rfl⟩
    subst e1; subst e2
    exact ⟨us.toList, by simpa using q2, q3, by simpa using q4⟩
   obtain ⟨uo, ho1, ho2, ho3⟩ := hold
   by_cases hfit : n + m ≤ cap
   ·
    obtain ⟨C, te, fr, p1, p2, p3, p4, p5⟩ := hat
    have hmul : (n + m) * sz' ≤ cap * sz' := Nat.mul_le_mul_right _ hfit
    have hmul2 : (n + m) * sz' = n * sz' + m * sz' := Nat.add_mul _ _ _
    obtain ⟨w', C', s1, s2, s3, s4, s5, s6, s7, s8, s9⟩ := run_storeCells_blk (P := P) (b := y.b) (o := o + n * sz') un.toList 0 w C (r3.oneCell hone) p1 (by rw [p2]; exact p3) (by rw [p2]; simp [r4]; omega)
    have hrun := run_append_fits (P := P) (w := w) (ty := ty) (n := n) (cap := cap) (base := some ⟨y.b, o, none⟩) (w' := w') hu hsz ht r1 (r2 w rfl) hfit (fun a ha => by cases ha; rw [add_eq]; exact s1) (fun h => by cases h)
    obtain ⟨g2, e2⟩ := g1.loose y.b s2 s3 s4 s5 s6 (g.ownNew id0 y hy).2 hnoρ (g.ownNew id0 y hy).1
    have hext := e1.trans e2
    have hlen : (sliceCells cs off (n * sz')).length = n * sz' := by simp [sliceCells]; omega
    have hnl : new.length = m * sz' := by have := r3.1; simp [r4] at this; omega
    obtain ⟨g3, e3⟩ := g2.add (x := ⟨y.b, o, y.m⟩) (cs := sliceCells cs off (n * sz') ++ new) hdead (by
      refine ⟨C', te, fr, s7, by rw [s8, p2], p3, by simp [hlen, hnl]; omega, fun i v hv => ?_⟩
      show ∃ u, C'[o + i]? = some u ∧ _
      rw [s9]
      rw [List.getElem?_append, hlen] at hv
      split at hv
      ·rename_i hi
       have hc0 : cap ≠ 0 := by
        intro h0
        subst h0
        have : n = 0 := by omega
        subst this
        simp at hi
       have ho' : o = y.o + off := by rcases ho with h | h; exact absurd h hc0; exact h
       subst ho'
       simp only [sliceCells, List.getElem?_take, List.getElem?_drop] at hv
       rw [if_pos hi] at hv
       obtain ⟨u, hu1, hu2⟩ := p5 (off + i) v hv
       refine ⟨u, ?_, hu2.ext hext⟩
       rw [if_neg (by simp [r4]; omega), ← hu1]
       congr 1
       omega
      ·rename_i hi
       obtain ⟨u, hu1, hu2⟩ := r3.get hv
       refine ⟨u, ?_, hu2.ext hext⟩
       have hlt := (List.getElem?_eq_some_iff.1 hu1).1
       simp at hlt
       rw [if_pos (by simp; omega), ← hu1]
       congr 1
       omega) (g.ownNew id0 y hy).2 hnoρ (g.ownNew id0 y hy).1
    refine ⟨_, _, hrun, .osl id 0 (n + m) sz', _, ro, _, hk, g3, ?_, hext.trans e3⟩
    exact .osl (get_rput g2 hdead _) (fun h => by cases h) (fun h => by cases h) hfit (fun x hx => by cases hx; exact ⟨rfl, rfl, .inr rfl, hfit, hm⟩)
   ·have := append_grow (P := P) (ty := ty) (n := n) (cap := cap) (base := some ⟨y.b, o, none⟩) (old := sliceCells cs off (n * sz')) (rows := rows.set id0 .dead) (ρ := ρ.set id0 .dead) hu hsz hb hz hzl ht hb1 hb2 (by omega) r1
     (fun q => by obtain ⟨us, q1, q2, q3⟩ := hnewq q; exact ⟨us, q1, q2.ext ⟨fun _ h => h, fun _ _ => rfl, e1.own⟩, q3⟩)
     (fun q => ⟨uo.toArray, ho1 _ rfl, (by rw [List.toList_toArray]; exact ho2.ext ⟨fun _ h => h, fun _ _ => rfl, e1.own⟩), by simpa using ho3⟩) g1 hdead hk
    obtain ⟨v, w', p1, r, rows', ro', ρ', p2, p3, p4, p5⟩ := this
    exact ⟨v, w', p1, r, rows', ro', ρ', p2, p3, p4, e1.trans p5⟩
 | _ => exact False.elim hk


theorem runs_acopy {t t' ty : TypeId} {d x : V} {ud ux : Value} (g : Good c rows w ro ρ) (hd : Rd w ro ρ ud d) (hx : Rd w ro ρ ux x) (h : acopy P t d x rows k) : Runs P (Builtin.copy_ #[t, t'] ty #[ud, ux]) c k w ro ρ := by
 cases d with
 | osl id off n sz =>
  obtain ⟨e, cs, hu, hs, hl, hne, hle, h⟩ := h
  obtain ⟨m, new, un, ⟨hm, hone, hk⟩, r1, r2, r3, r4⟩ := run_shown (P := P) g hx h
  have hnl : new.length = m * sz := by have := r3.1; simp [r4] at this; omega
  have hmul : m * sz ≤ n * sz := Nat.mul_le_mul_right _ hm
  rcases rd_osl g hd hl with ⟨-, -, rfl, -⟩ | ⟨y, o, cap, hy, hat, rfl, ho, hn, hmx⟩
  ·exact absurd rfl hne
  ·have hmin : Nat.min m n = m := Nat.min_eq_left hm
   by_cases hc0 : cap = 0
   ·subst hc0
    obtain rfl : n = 0 := by omega
    obtain rfl : m = 0 := by omega
    have hn0 : new = [] := List.eq_nil_of_length_eq_zero (by simpa using hnl)
    subst hn0
    have hu0 : un = #[] := Array.eq_empty_of_size_eq_zero (by simpa using r4)
    subst hu0
    rw [lput, set_self hl] at hk
    exact .same (v := .int .i64 0) g (by simp [Builtin.copy_, run_underlying (uslice_under hu), r1, run_size hs, r2, storeCells, goInt]) .int (by simpa using hk)
   ·obtain rfl : o = y.o + off := by rcases ho with h | h; exact absurd h hc0; exact h
    obtain ⟨w', s1, g1, e1⟩ := g.stored (P := P) (off := off) hl hy r3 hone (by omega)
    refine ⟨.int .i64 m, w', ?_, .int .i64 m, _, ro, ρ, hk, g1, .int, e1⟩
    have hmin' : min m n = m := hmin
    simp [Builtin.copy_, run_underlying (uslice_under hu), r1, hmin', run_size hs, r2, s1, goInt]
 | _ => exact False.elim h

theorem runs_aminmax {mx : Bool} {ts : Array TypeId} {ty : TypeId} {args : List V} {us : List Value} (g : Good c rows w ro ρ) (ha : Rds w ro ρ us args) (h : aminmax mx args fun v => k v rows) :
  Runs P (if mx then Builtin.max_ ts ty us.toArray else Builtin.min_ ts ty us.toArray) c k w ro ρ := by
 unfold aminmax at h
 split at h
 ·rename_i kd a kd' b
  obtain ⟨rfl, h⟩ := h
  match us, ha with
  | [u, v], ha =>
   obtain rfl := rd_int (ha.2 0 u _ rfl rfl)
   obtain rfl := rd_int (ha.2 1 v _ rfl rfl)
   cases mx
   ·exact .same g (by simp [Builtin.min_, Builtin.min2]) .int h
   ·exact .same g (by simp [Builtin.max_, Builtin.max2]) .int h
  | [], ha => simp [Rds] at ha
  | [_], ha => simp [Rds] at ha
  | _ :: _ :: _ :: _, ha => simp [Rds] at ha
 ·rename_i kd a kd' b kd'' c
  obtain ⟨rfl, rfl, h⟩ := h
  match us, ha with
  | [u, v, q], ha =>
   obtain rfl := rd_int (ha.2 0 u _ rfl rfl)
   obtain rfl := rd_int (ha.2 1 v _ rfl rfl)
   obtain rfl := rd_int (ha.2 2 q _ rfl rfl)
   cases mx
   ·exact .same g (by simp [Builtin.min_, Builtin.min2]) .int h
   ·exact .same g (by simp [Builtin.max_, Builtin.max2]) .int h
  | [], ha => simp [Rds] at ha
  | [_], ha => simp [Rds] at ha
  | [_, _], ha => simp [Rds] at ha
  | _ :: _ :: _ :: _ :: _, ha => simp [Rds] at ha
 ·exact h.elim

end
end Go.VS
