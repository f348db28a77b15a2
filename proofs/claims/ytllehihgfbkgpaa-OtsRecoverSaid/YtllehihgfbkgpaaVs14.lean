/-
  VALUE SEMANTICS, 14: what simp takes to run code on abstract values.
  Conditions: none; over any program.
-/
import Derived.Test.YtllehihgfbkgpaaVs13
set_option linter.unusedSimpArgs false
set_option linter.unusedVariables false
namespace Go.VS

attribute [simp] aeff oval ofConst ofCell sget sput sset athen ablock aend ares aresL ares1 abin aint astr aun apart acells aload astore abox aindexAddr aindex afieldAddr afield abuildSlice abuild aslice abound
  aconv alen abuiltin aappend acopy aminmax ashown amakeSlice lput Free rput sliceCells unguarded List.replicate

@[simp] theorem toByte_byteV (b : UInt8) : toByte (byteV b) = b := by simp [byteV, toByte]
@[simp] theorem isByte_byteV (b : UInt8) : (byteV b).isByte = true := rfl
@[simp] theorem one_byteV (b : UInt8) : (byteV b).one = true := rfl
@[simp] theorem one_bool {b : Bool} : (V.bool b).one = true := rfl
@[simp] theorem eqable_bool {b : Bool} : (V.bool b).eqable = true := rfl
@[simp] theorem isByte_bool {b : Bool} : (V.bool b).isByte = false := rfl
@[simp] theorem one_int {k : IntKind} {n : Int} : (V.int k n).one = true := rfl
@[simp] theorem eqable_int {k : IntKind} {n : Int} : (V.int k n).eqable = false := rfl
@[simp] theorem one_str {b : List UInt8} : (V.str b).one = true := rfl
@[simp] theorem eqable_str {b : List UInt8} : (V.str b).eqable = false := rfl
@[simp] theorem isByte_str {b : List UInt8} : (V.str b).isByte = false := rfl
@[simp] theorem one_nilp  : V.nilp.one = true := rfl
@[simp] theorem eqable_nilp  : V.nilp.eqable = true := rfl
@[simp] theorem isByte_nilp  : V.nilp.isByte = false := rfl
@[simp] theorem one_ref {i o : Nat} : (V.ref i o).one = true := rfl
@[simp] theorem eqable_ref {i o : Nat} : (V.ref i o).eqable = true := rfl
@[simp] theorem isByte_ref {i o : Nat} : (V.ref i o).isByte = false := rfl
@[simp] theorem one_rptr {c : List V} : (V.rptr c).one = true := rfl
@[simp] theorem eqable_rptr {c : List V} : (V.rptr c).eqable = true := rfl
@[simp] theorem isByte_rptr {c : List V} : (V.rptr c).isByte = false := rfl
@[simp] theorem one_nils  : V.nils.one = true := rfl
@[simp] theorem eqable_nils  : V.nils.eqable = true := rfl
@[simp] theorem isByte_nils  : V.nils.isByte = false := rfl
@[simp] theorem one_sl {n : Nat} {c : List V} : (V.sl n c).one = true := rfl
@[simp] theorem eqable_sl {n : Nat} {c : List V} : (V.sl n c).eqable = true := rfl
@[simp] theorem isByte_sl {n : Nat} {c : List V} : (V.sl n c).isByte = false := rfl
@[simp] theorem one_osl {i o n z : Nat} : (V.osl i o n z).one = true := rfl
@[simp] theorem eqable_osl {i o n z : Nat} : (V.osl i o n z).eqable = true := rfl
@[simp] theorem isByte_osl {i o n z : Nat} : (V.osl i o n z).isByte = false := rfl
@[simp] theorem one_fn {f : Fn} {c : List V} : (V.fn f c).one = true := rfl
@[simp] theorem eqable_fn {f : Fn} {c : List V} : (V.fn f c).eqable = true := rfl
@[simp] theorem isByte_fn {f : Fn} {c : List V} : (V.fn f c).isByte = false := rfl
@[simp] theorem one_nilf  : V.nilf.one = true := rfl
@[simp] theorem eqable_nilf  : V.nilf.eqable = true := rfl
@[simp] theorem isByte_nilf  : V.nilf.isByte = false := rfl
@[simp] theorem one_niface  : V.niface.one = true := rfl
@[simp] theorem eqable_niface  : V.niface.eqable = false := rfl
@[simp] theorem isByte_niface  : V.niface.isByte = false := rfl
@[simp] theorem one_iface {t : TypeId} {x : V} : (V.iface t x).one = true := rfl
@[simp] theorem eqable_iface {t : TypeId} {x : V} : (V.iface t x).eqable = true := rfl
@[simp] theorem isByte_iface {t : TypeId} {x : V} : (V.iface t x).isByte = false := rfl
@[simp] theorem one_agg {c : List V} : (V.agg c).one = false := rfl
@[simp] theorem eqable_agg {c : List V} : (V.agg c).eqable = true := rfl
@[simp] theorem isByte_agg {c : List V} : (V.agg c).isByte = false := rfl
@[simp] theorem one_junk  : V.junk.one = false := rfl
@[simp] theorem eqable_junk  : V.junk.eqable = false := rfl
@[simp] theorem isByte_junk  : V.junk.isByte = false := rfl
@[simp] theorem isByte_u8 {n : Int} : (V.int .u8 n).isByte = true := rfl
@[simp] theorem toByte_u8 {n : Int} : toByte (V.int .u8 n) = UInt8.ofNat n.toNat := rfl
@[simp] theorem vcells_byteV {b : UInt8} : vcells (byteV b) = some [byteV b] := rfl
@[simp] theorem vcells_agg {c : List V} : vcells (.agg c) = some c := rfl
@[simp] theorem vcells_bool {b : Bool} : vcells (V.bool b) = some [(V.bool b)] := rfl
@[simp] theorem vcells_int {k : IntKind} {n : Int} : vcells (V.int k n) = some [(V.int k n)] := rfl
@[simp] theorem vcells_str {b : List UInt8} : vcells (V.str b) = some [(V.str b)] := rfl
@[simp] theorem vcells_nilp  : vcells V.nilp = some [V.nilp] := rfl
@[simp] theorem vcells_ref {i o : Nat} : vcells (V.ref i o) = some [(V.ref i o)] := rfl
@[simp] theorem vcells_rptr {c : List V} : vcells (V.rptr c) = some [(V.rptr c)] := rfl
@[simp] theorem vcells_nils  : vcells V.nils = some [V.nils] := rfl
@[simp] theorem vcells_sl {n : Nat} {c : List V} : vcells (V.sl n c) = some [(V.sl n c)] := rfl
@[simp] theorem vcells_osl {i o n z : Nat} : vcells (V.osl i o n z) = some [(V.osl i o n z)] := rfl
@[simp] theorem vcells_fn {f : Fn} {c : List V} : vcells (V.fn f c) = some [(V.fn f c)] := rfl
@[simp] theorem vcells_nilf  : vcells V.nilf = some [V.nilf] := rfl
@[simp] theorem vcells_niface  : vcells V.niface = some [V.niface] := rfl
@[simp] theorem vcells_iface {t : TypeId} {x : V} : vcells (V.iface t x) = some [(V.iface t x)] := rfl
@[simp] theorem pure_byteV (b : UInt8) : (byteV b).Pure := .int

section
variable {ex : Bool} {m : List (Option Nat)}

@[simp] theorem ren_junk {y : V} : Ren false m .junk y := .junk rfl
@[simp] theorem ren_int {k : IntKind} {n : Int} {y : V} : Ren ex m (.int k n) y ↔ y = .int k n := ⟨fun h => by cases h; rfl, fun h => by subst h; exact .pure .int⟩
@[simp] theorem ren_bool {b : Bool} {y : V} : Ren ex m (.bool b) y ↔ y = .bool b := ⟨fun h => by cases h; rfl, fun h => by subst h; exact .pure .bool⟩
@[simp] theorem ren_str {b : List UInt8} {y : V} : Ren ex m (.str b) y ↔ y = .str b := ⟨fun h => by cases h; rfl, fun h => by subst h; exact .pure .str⟩
@[simp] theorem ren_nilp {y : V} : Ren ex m .nilp y ↔ y = .nilp := ⟨fun h => by cases h; rfl, fun h => by subst h; exact .pure .nilp⟩
@[simp] theorem ren_nils {y : V} : Ren ex m .nils y ↔ y = .nils := ⟨fun h => by cases h; rfl, fun h => by subst h; exact .pure .nils⟩
@[simp] theorem ren_nilf {y : V} : Ren ex m .nilf y ↔ y = .nilf := ⟨fun h => by cases h; rfl, fun h => by subst h; exact .pure .nilf⟩
@[simp] theorem ren_niface {y : V} : Ren ex m .niface y ↔ y = .niface := ⟨fun h => by cases h; rfl, fun h => by subst h; exact .pure .niface⟩
@[simp] theorem ren_sl {n : Nat} {c : List V} {y : V} : Ren ex m (.sl n c) y ↔ y = .sl n c := ⟨fun h => by cases h; rfl, fun h => by subst h; exact .pure .sl⟩
@[simp] theorem ren_rptr {c : List V} {y : V} : Ren ex m (.rptr c) y ↔ y = .rptr c := ⟨fun h => by cases h; rfl, fun h => by subst h; exact .pure .rptr⟩
@[simp] theorem ren_val {u : Value} {y : V} : Ren ex m (.val u) y ↔ y = .val u := ⟨fun h => by cases h; rfl, fun h => by subst h; exact .pure .val⟩
@[simp] theorem ren_ref {j i o p : Nat} : Ren ex m (.ref j o) (.ref i p) ↔ m[j]? = some (some i) ∧ p = o :=
  ⟨fun h => by cases h with | pure h => cases h | ref h => exact ⟨h, rfl⟩, fun h => by obtain ⟨h, rfl⟩ := h; exact .ref h⟩
@[simp] theorem ren_osl {j i o p n n' z z' : Nat} : Ren ex m (.osl j o n z) (.osl i p n' z') ↔ m[j]? = some (some i) ∧ p = o ∧ n' = n ∧ z' = z :=
  ⟨fun h => by cases h with | pure h => cases h | osl h => exact ⟨h, rfl, rfl, rfl⟩, fun h => by obtain ⟨h, rfl, rfl, rfl⟩ := h; exact .osl h⟩
@[simp] theorem ren_osl_nils {j o n z : Nat} : Ren false m (.osl j o n z) .nils ↔ m[j]? = some none ∧ n = 0 :=
  ⟨fun h => by cases h with | nil _ h => exact ⟨h, rfl⟩, fun h => by obtain ⟨h, rfl⟩ := h; exact .nil rfl h⟩
@[simp] theorem rens_nil : Rens ex m [] [] ↔ True := Iff.rfl
@[simp] theorem rens_cons {x y : V} {xs ys : List V} : Rens ex m (x :: xs) (y :: ys) ↔ Ren ex m x y ∧ Rens ex m xs ys := Iff.rfl

theorem rowsRen_nil : RowsRen [] [] [] := ⟨rfl, fun j j' i h => by simp at h, fun j i r h => by simp at h, fun j r h => by simp at h⟩

/-- Rows that are dropped. -/
theorem rowsRen_drop (rows : List Row) : RowsRen [] [] rows := ⟨rfl, fun j j' i h => by simp at h, fun j i r h => by simp at h, fun j r h => by simp at h⟩

end

/-- All rows are dropped: no slot that is kept names one. -/
theorem Le.drop {s s' : List V} {rows : List Row} (h : Rens false [] s' s) : Le 0 s rows s' [] := ⟨[], h, rowsRen_drop rows, fun j h => by omega⟩

/-- The rows that are kept: their old numbers, one after the other. -/
theorem Le.mk {n0 : Nat} {s s' : List V} {rows rows' : List Row} (m : List (Option Nat)) (h : Rens false m s' s) (hr : RowsRen m rows' rows) (hn : ∀ j, j < n0 → m[j]? = some (some j)) : Le n0 s rows s' rows' := ⟨m, h, hr, hn⟩

/-- New rows over old ones, place by place. -/
def rowsOver (M : List (Option Nat)) (rows : List Row) : List (Option Nat) → List Row → Prop
  | [], [] => True
  | none :: m, r' :: rs => r' = .live [] ∧ rowsOver M rows m rs
  | some i :: m, r' :: rs => (∃ r, rows[i]? = some r ∧ RowRen false M r' r) ∧ rowsOver M rows m rs
  | _, _ => False

theorem rowsOver_get {M : List (Option Nat)} {rows : List Row} : ∀ {m : List (Option Nat)} {rs : List Row}, rowsOver M rows m rs → rs.length = m.length ∧
    (∀ (j i : Nat) r', m[j]? = some (some i) → rs[j]? = some r' → ∃ r, rows[i]? = some r ∧ RowRen false M r' r) ∧ (∀ (j : Nat) r', m[j]? = some none → rs[j]? = some r' → r' = .live [])
  | [], [], _ => ⟨rfl, fun j i r h => by simp at h, fun j r h => by simp at h⟩
  | [], _ :: _, h => h.elim
  | none :: _, [], h => h.elim
  | some _ :: _, [], h => h.elim
  | none :: m, r' :: rs, h => by
    obtain ⟨h1, h2, h3⟩ := rowsOver_get h.2
    refine ⟨by simp [h1], fun j i r hj hr => ?_, fun j r hj hr => ?_⟩
    · cases j with
      | zero => simp at hj
      | succ j => exact h2 j i r (by simpa using hj) (by simpa using hr)
    · cases j with
      | zero => simp at hr; rw [← hr]; exact h.1
      | succ j => exact h3 j r (by simpa using hj) (by simpa using hr)
  | some i :: m, r' :: rs, h => by
    obtain ⟨h1, h2, h3⟩ := rowsOver_get h.2
    refine ⟨by simp [h1], fun j i r hj hr => ?_, fun j r hj hr => ?_⟩
    · cases j with
      | zero => simp at hj hr; subst hj; subst hr; exact h.1
      | succ j => exact h2 j i r (by simpa using hj) (by simpa using hr)
    · cases j with
      | zero => simp at hj
      | succ j => exact h3 j r (by simpa using hj) (by simpa using hr)

theorem inj_of_nodup {m : List (Option Nat)} (h : (m.filterMap id).Nodup) : ∀ (j j' i : Nat), m[j]? = some (some i) → m[j']? = some (some i) → j = j' := by
  induction m with
  | nil => intro j j' i h; simp at h
  | cons x m ih =>
    intro j j' i h1 h2
    have hm : (m.filterMap id).Nodup := by
      cases x with
      | none => simpa using h
      | some x => simp at h; exact h.2
    have mem : ∀ t : Nat, m[t]? = some (some i) → i ∈ m.filterMap id := fun t ht => List.mem_filterMap.2 ⟨some i, List.mem_of_getElem? ht, rfl⟩
    cases j with
    | zero =>
      cases j' with
      | zero => rfl
      | succ j' =>
        simp at h1 h2
        subst h1
        simp at h
        exact absurd h2 (fun h2 => by
          have := mem j' h2
          simp at this
          obtain ⟨⟩ := h
          simp_all)
    | succ j =>
      cases j' with
      | zero =>
        simp at h1 h2
        subst h2
        simp at h
        exact absurd h1 (fun h1 => by
          have := mem j h1
          simp at this
          simp_all)
      | succ j' =>
        have := ih hm j j' i (by simpa using h1) (by simpa using h2)
        omega

theorem rowsRen_of {m : List (Option Nat)} {rows rows' : List Row} (hn : (m.filterMap id).Nodup) (h : rowsOver m rows m rows') : RowsRen m rows' rows :=
  let ⟨h1, h2, h3⟩ := rowsOver_get h
  ⟨h1, inj_of_nodup hn, h2, h3⟩

end Go.VS
