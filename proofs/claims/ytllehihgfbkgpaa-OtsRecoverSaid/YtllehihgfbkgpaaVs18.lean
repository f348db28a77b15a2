/-
  VALUE SEMANTICS, 18: loops with a condition on the ghost data; calls by contract; more for simp.
  Conditions: none; over any program.
-/
import Derived.Test.YtllehihgfbkgpaaVs14
import Derived.Test.YtllehihgfbkgpaaVs17
set_option linter.unusedSimpArgs false
set_option linter.unusedVariables false
namespace Go.VS

section
variable {P : Program} {n0 : Nat} {Q : Exit → KS} {s : List V} {rows : List Row}

/-- A loop. S, R: slots and rows at each round's head, by ghost data x of which H holds; μ falls. -/
theorem awp_loop' {α : Type} (S : α → List V) (R : α → List Row) (H : α → Prop) (μ : α → Nat) (x0 : α) {code : Code} (h0 : H x0) (hle : Le n0 s rows (S x0) (R x0))
    (round : ∀ x, H x → ∀ K : KS, (∀ x' s' rows', H x' → μ x' < μ x → Le n0 s' rows' (S x') (R x') → K s' rows') → AWp P n0 code (athen K Q) (S x) (R x)) : AWp P n0 (.loop code) Q s rows := by
  refine awp_loop (α := { x : α // H x }) (fun x => (S x.1, R x.1)) (fun x => μ x.1) ⟨x0, h0⟩ hle fun x => ?_
  refine round x.1 x.2 _ fun x' s' rows' h1 h2 h3 => ⟨⟨x', h1⟩, h2, h3⟩

/-- A loop over a counter that rises to a bound. -/
theorem awp_count (S : Nat → List V) (R : Nat → List Row) (n : Nat) {code : Code} (hle : Le n0 s rows (S 0) (R 0))
    (round : ∀ i, i ≤ n → ∀ K : KS, (∀ s' rows', i < n → Le n0 s' rows' (S (i + 1)) (R (i + 1)) → K s' rows') → AWp P n0 code (athen K Q) (S i) (R i)) : AWp P n0 (.loop code) Q s rows :=
  awp_loop' S R (fun i => i ≤ n) (fun i => n + 1 - i) 0 (Nat.zero_le _) hle fun i hi K hK => round i hi K fun s' rows' h1 h2 => hK (i + 1) s' rows' (by omega) (by omega) h2

end

section
variable {P : Program} {draw : Bool} {f : FuncId} {cap args args' : List V} {rows : List Row} {k : KV} {r : V}

theorem acall_pure (h : PCall P f (args ++ cap) r) (hp : ∀ x ∈ args ++ cap, x.Pure) (hk : k r rows) : acall P draw (.fn (.func f) cap) args rows k := .inl (.inr ⟨r, hp, h, hk⟩)

theorem acall_view (h : PCall P f args' r) (hv : Views rows (args ++ cap) args') (hf : r.Flat) (hk : k r rows) : acall P draw (.fn (.func f) cap) args rows k := .inl (.inl ⟨args', r, hv, h, hf, hk⟩)

end

@[simp] theorem aeffM_true {P : Program} {op : Op} {id : Nat} {s : List V} {rows : List Row} {k : KV} : aeffM P true op id s rows k = aeffP P op s rows k := rfl
@[simp] theorem aeffM_false {P : Program} {op : Op} {id : Nat} {s : List V} {rows : List Row} {k : KV} : aeffM P false op id s rows k = aeff P true op id s rows k := rfl
attribute [simp] opNew aeffP

@[simp] theorem pure_bool {b : Bool} : (V.bool b).Pure := .bool
@[simp] theorem pure_int {k : IntKind} {n : Int} : (V.int k n).Pure := .int
@[simp] theorem pure_str {b : List UInt8} : (V.str b).Pure := .str
@[simp] theorem pure_nilp : V.nilp.Pure := .nilp
@[simp] theorem pure_rptr {c : List V} : (V.rptr c).Pure := .rptr
@[simp] theorem pure_nils : V.nils.Pure := .nils
@[simp] theorem pure_sl {n : Nat} {c : List V} : (V.sl n c).Pure := .sl
@[simp] theorem pure_nilf : V.nilf.Pure := .nilf
@[simp] theorem pure_niface : V.niface.Pure := .niface
@[simp] theorem pure_agg {c : List V} : (V.agg c).Pure ↔ ∀ x ∈ c, x.Pure := ⟨fun h => by cases h; assumption, fun h => .agg h⟩
@[simp] theorem pure_tup {c : List V} : (V.tup c).Pure ↔ ∀ x ∈ c, x.Pure := ⟨fun h => by cases h; assumption, fun h => .tup h⟩
@[simp] theorem pure_fn {f : Fn} {c : List V} : (V.fn f c).Pure ↔ ∀ x ∈ c, x.Pure := ⟨fun h => by cases h; assumption, fun h => .fn h⟩
@[simp] theorem pure_iface {t : TypeId} {x : V} : (V.iface t x).Pure ↔ x.Pure := ⟨fun h => by cases h; assumption, fun h => .iface h⟩
@[simp] theorem pure_ref {i o : Nat} : ¬ (V.ref i o).Pure := fun h => by cases h
@[simp] theorem pure_osl {i o n z : Nat} : ¬ (V.osl i o n z).Pure := fun h => by cases h

theorem view_osl {rows : List Row} {id off n sz : Nat} {cs : List V} (h : rows[id]? = some (.live cs)) (hl : off + n * sz ≤ cs.length) (hp : ∀ x ∈ (cs.drop off).take (n * sz), x.Pure) :
    View rows (.osl id off n sz) (.sl n ((cs.drop off).take (n * sz))) := by
  refine .osl h hl (by simp; omega) fun i x y hx hy => ?_
  rw [List.getElem?_take] at hy
  split at hy
  · rw [List.getElem?_drop, hx] at hy
    obtain rfl := Option.some.inj hy
    exact .pure (hp _ (List.mem_of_getElem? (i := i) (by rw [List.getElem?_take, if_pos (by assumption), List.getElem?_drop]; exact hx)))
  · cases hy

/-- A whole row, as a slice. -/
theorem view_row {rows : List Row} {id n sz : Nat} {cs : List V} (h : rows[id]? = some (.live cs)) (hl : n * sz = cs.length) (hp : ∀ x ∈ cs, x.Pure) : View rows (.osl id 0 n sz) (.sl n cs) := by
  have := view_osl (off := 0) (n := n) (sz := sz) h (by omega) (by simpa [hl] using hp)
  simpa [hl] using this

theorem view_ref {rows : List Row} {id : Nat} {cs : List V} (h : rows[id]? = some (.live cs)) (hl : cs ≠ []) (hp : ∀ x ∈ cs, x.Pure) : View rows (.ref id 0) (.rptr cs) := by
  refine .ref h hl (by omega) fun i x y hx hy => ?_
  rw [Nat.zero_add, hy] at hx
  obtain rfl := Option.some.inj hx
  exact .pure (hp _ (List.mem_of_getElem? hy))

@[simp] theorem views_nil {rows : List Row} : Views rows [] [] ↔ True := Iff.rfl
@[simp] theorem views_cons {rows : List Row} {x y : V} {xs ys : List V} : Views rows (x :: xs) (y :: ys) ↔ View rows x y ∧ Views rows xs ys := Iff.rfl

theorem ren_self {ex : Bool} {m : List (Option Nat)} {x : V} (h : x.Pure) : Ren ex m x x := .pure h

theorem rens_self {ex : Bool} {m : List (Option Nat)} : ∀ {cs : List V}, (∀ x ∈ cs, x.Pure) → Rens ex m cs cs
  | [], _ => trivial
  | x :: xs, h => ⟨.pure (h x (by simp)), rens_self fun y hy => h y (by simp [hy])⟩

@[simp] theorem rowRen_self {ex : Bool} {m : List (Option Nat)} {cs : List V} (h : ∀ x ∈ cs, x.Pure) : RowRen ex m (.live cs) (.live cs) ↔ True := iff_true_intro (show Rens ex m cs cs from rens_self h)

theorem rowRen_eq {ex : Bool} {m : List (Option Nat)} {cs cs' : List V} (e : cs' = cs) (h : ∀ x ∈ cs, x.Pure) : RowRen ex m (.live cs') (.live cs) := by
  subst e
  exact (rowRen_self h).2 trivial

theorem wrap_i64 {n : Int} (h1 : -9223372036854775808 ≤ n) (h2 : n ≤ 9223372036854775807) : IntKind.i64.wrap n = n := by
  simp [IntKind.wrap, IntKind.signed, IntKind.bits]; omega
theorem wrap_u8 {n : Int} (h1 : 0 ≤ n) (h2 : n ≤ 255) : IntKind.u8.wrap n = n := by
  simp [IntKind.wrap, IntKind.signed, IntKind.bits]; omega
theorem wrap_u32 {n : Int} (h1 : 0 ≤ n) (h2 : n ≤ 4294967295) : IntKind.u32.wrap n = n := by
  simp [IntKind.wrap, IntKind.signed, IntKind.bits]; omega
theorem wrap_u64 {n : Int} (h1 : 0 ≤ n) (h2 : n ≤ 18446744073709551615) : IntKind.u64.wrap n = n := by
  simp [IntKind.wrap, IntKind.signed, IntKind.bits]; omega

end Go.VS
