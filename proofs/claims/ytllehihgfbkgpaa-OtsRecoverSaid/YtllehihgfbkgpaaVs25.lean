/-
  VALUE SEMANTICS, 25: loops by what they change; the end of a function.
  Conditions: none; over any program.
-/
import Derived.Test.YtllehihgfbkgpaaVs20
set_option linter.unusedSimpArgs false
set_option linter.unusedVariables false
namespace Go.VS

/-- Slots changed, place by place. -/
def ups : List V → List (Option V) → List V
  | a :: s, some v :: u => v :: ups s u
  | a :: s, none :: u => a :: ups s u
  | s, _ => s
theorem ups_some {a v : V} {s : List V} {u : List (Option V)} : ups (a :: s) (some v :: u) = v :: ups s u := rfl
theorem ups_none {a : V} {s : List V} {u : List (Option V)} : ups (a :: s) (none :: u) = a :: ups s u := rfl
theorem ups_nil {a : V} {s : List V} : ups (a :: s) [] = a :: s := rfl
theorem ups_nil' : ups [] [] = [] := rfl

section
variable {P : Program} {n0 : Nat} {Q : Exit → KS} {s : List V} {rows : List Row}

/-- A loop over a counter that rises to a bound; what each round changes. -/
theorem awp_countU (U : Nat → List (Option V)) (R : Nat → List Row) (n : Nat) {code : Code} (hle : Le n0 s rows (ups s (U 0)) (R 0))
    (round : ∀ i, i ≤ n → ∀ K : KS, (∀ s' rows', i < n → Le n0 s' rows' (ups s (U (i + 1))) (R (i + 1)) → K s' rows') → AWp P n0 code (athen K Q) (ups s (U i)) (R i)) : AWp P n0 (.loop code) Q s rows :=
  awp_count (fun i => ups s (U i)) R n hle round

/-- A loop. U, R: what has changed at each round's head, by ghost data x of which H holds; μ falls. -/
theorem awp_loopU {α : Type} (U : α → List (Option V)) (R : α → List Row) (H : α → Prop) (μ : α → Nat) (x0 : α) {code : Code} (h0 : H x0) (hle : Le n0 s rows (ups s (U x0)) (R x0))
    (round : ∀ x, H x → ∀ K : KS, (∀ x' s' rows', H x' → μ x' < μ x → Le n0 s' rows' (ups s (U x')) (R x') → K s' rows') → AWp P n0 code (athen K Q) (ups s (U x)) (R x)) : AWp P n0 (.loop code) Q s rows :=
  awp_loop' (fun x => ups s (U x)) R H μ x0 h0 hle round

theorem athen_normal {K : KS} : athen K Q .normal = K := rfl
theorem athen_exit {K : KS} {j : Nat} : athen K Q (.exit j) = Q (.exit j) := rfl
theorem athen_ret {K : KS} : athen K Q .ret = Q .ret := rfl
theorem ablock_self {j : Nat} : ablock j Q (.exit j) = Q .normal := by simp [ablock]
theorem ablock_ne {i j : Nat} (h : (i == j) = false) : ablock j Q (.exit i) = Q (.exit i) := by simp at h; simp [ablock, h]
theorem ablock_normal {j : Nat} : ablock j Q .normal = Q .normal := rfl
theorem ablock_ret {j : Nat} : ablock j Q .ret = Q .ret := rfl

theorem awp_slots {s' : List V} {code : Code} (e : s = s') (h : AWp P n0 code Q s' rows) : AWp P n0 code Q s rows := by subst e; exact h

/-- An operation without a guard. -/
theorem arun_go0 {ops : Array Oper} {K : KS} {o : Oper} {os : List Oper} (hg : o.guard = none) (h : ∀ K2 : KV, (∀ v rows', arun P ops os (sput s o.dst v) rows' K → K2 v rows') → aeff P false o.op rows.length s rows K2) : arun P ops (o :: os) s rows K :=
  arun_go (by unfold gval; rw [hg]) h
theorem arun_slots {ops : Array Oper} {K : KS} {os : List Oper} {s s' : List V} (e : s = s') (h : arun P ops os s' rows K) : arun P ops os s rows K := by subst e; exact h
theorem arunD_slots {ops : Array Oper} {K : KS} {os : List Oper} {ms ms' : List Bool} {id id' : Nat} {s s' : List V} (e : s = s') (ei : id = id') (em : ms = ms') (h : arunD P ops ms' os id' s' rows K) : arunD P ops ms os id s rows K := by subst e; subst ei; subst em; exact h
theorem awp_region_draw' {id m : Nat} {ops : Array Oper} (hn : opsNew ops = m) (ms : List Bool) (hm : P.follows .mixedOrders = true) (hi : indep (markAt ms) ops = true)
    (h : arunD P ops ms ops.toList rows.length s (rows ++ List.replicate m .resv) (Q .normal)) : AWp P n0 (.region id ops true) Q s rows := awp_region_draw hm ms hi hn h

theorem bif_if (b : Bool) (id : Nat) : (bif b then id + 1 else id) = if b = true then id + 1 else id := by cases b <;> rfl
theorem arunD_go' {ops : Array Oper} {K : KS} {o : Oper} {os : List Oper} {ms : List Bool} {id : Nat} (hg : gval ops o.guard s = some true)
    (h : ∀ K2 : KV, (∀ v rows', arunD P ops ms.tail os (bif opNew o.op then id + 1 else id) (sput s o.dst v) rows' K → K2 v rows') → aeffM P (ms.headD false) o.op id s rows K2) : arunD P ops ms (o :: os) id s rows K :=
  arunD_go hg fun K2 hK2 => h K2 fun v rows' hv => hK2 v rows' (bif_if (opNew o.op) id ▸ hv)
theorem arunD_no' {ops : Array Oper} {K : KS} {o : Oper} {os : List Oper} {ms : List Bool} {id : Nat} (hg : gval ops o.guard s = some false)
    (h : arunD P ops ms.tail os (bif opNew o.op then id + 1 else id) (sput s o.dst .junk) rows K) : arunD P ops ms (o :: os) id s rows K :=
  arunD_no hg (bif_if (opNew o.op) id ▸ h)

theorem arunD_go0 {ops : Array Oper} {K : KS} {o : Oper} {os : List Oper} {ms : List Bool} {id : Nat} (hg : o.guard = none)
    (h : ∀ K2 : KV, (∀ v rows', arunD P ops ms.tail os (bif opNew o.op then id + 1 else id) (sput s o.dst v) rows' K → K2 v rows') → aeffM P (ms.headD false) o.op id s rows K2) : arunD P ops ms (o :: os) id s rows K :=
  arunD_go' (by unfold gval; rw [hg]) h

theorem arunD_goF {ops : Array Oper} {K : KS} {o : Oper} {os : List Oper} {ms : List Bool} {id : Nat} (hg : o.guard = none) (hn : opNew o.op = false)
    (h : ∀ K2 : KV, (∀ v rows', arunD P ops ms.tail os id (sput s o.dst v) rows' K → K2 v rows') → aeffM P (ms.headD false) o.op id s rows K2) : arunD P ops ms (o :: os) id s rows K :=
  arunD_go0 hg fun K2 hK2 => h K2 fun v rows' hv => hK2 v rows' (by rw [hn]; exact hv)
theorem arunD_goT {ops : Array Oper} {K : KS} {o : Oper} {os : List Oper} {ms : List Bool} {id : Nat} (hg : o.guard = none) (hn : opNew o.op = true)
    (h : ∀ K2 : KV, (∀ v rows', arunD P ops ms.tail os (id + 1) (sput s o.dst v) rows' K → K2 v rows') → aeffM P (ms.headD false) o.op id s rows K2) : arunD P ops ms (o :: os) id s rows K :=
  arunD_go0 hg fun K2 hK2 => h K2 fun v rows' hv => hK2 v rows' (by rw [hn]; exact hv)
theorem arunD_gF {ops : Array Oper} {K : KS} {o : Oper} {os : List Oper} {ms : List Bool} {id : Nat} (hn : opNew o.op = false) (hg : gval ops o.guard s = some true)
    (h : ∀ K2 : KV, (∀ v rows', arunD P ops ms.tail os id (sput s o.dst v) rows' K → K2 v rows') → aeffM P (ms.headD false) o.op id s rows K2) : arunD P ops ms (o :: os) id s rows K :=
  arunD_go' hg fun K2 hK2 => h K2 fun v rows' hv => hK2 v rows' (by rw [hn]; exact hv)
theorem arunD_gT {ops : Array Oper} {K : KS} {o : Oper} {os : List Oper} {ms : List Bool} {id : Nat} (hn : opNew o.op = true) (hg : gval ops o.guard s = some true)
    (h : ∀ K2 : KV, (∀ v rows', arunD P ops ms.tail os (id + 1) (sput s o.dst v) rows' K → K2 v rows') → aeffM P (ms.headD false) o.op id s rows K2) : arunD P ops ms (o :: os) id s rows K :=
  arunD_go' hg fun K2 hK2 => h K2 fun v rows' hv => hK2 v rows' (by rw [hn]; exact hv)
theorem arunD_nF {ops : Array Oper} {K : KS} {o : Oper} {os : List Oper} {ms : List Bool} {id : Nat} (hn : opNew o.op = false) (hg : gval ops o.guard s = some false)
    (h : arunD P ops ms.tail os id (sput s o.dst .junk) rows K) : arunD P ops ms (o :: os) id s rows K :=
  arunD_no' hg (by rw [hn]; exact h)
theorem arunD_nT {ops : Array Oper} {K : KS} {o : Oper} {os : List Oper} {ms : List Bool} {id : Nat} (hn : opNew o.op = true) (hg : gval ops o.guard s = some false)
    (h : arunD P ops ms.tail os (id + 1) (sput s o.dst .junk) rows K) : arunD P ops ms (o :: os) id s rows K :=
  arunD_no' hg (by rw [hn]; exact h)
theorem arunD_slots' {ops : Array Oper} {K : KS} {os : List Oper} {ms ms' : List Bool} {id : Nat} {s s' : List V} (e : s = s') (em : ms = ms') (h : arunD P ops ms' os id s' rows K) : arunD P ops ms os id s rows K := by subst e; subst em; exact h

theorem ret_go {rs : List ResultVar} {R : V → List Row → Prop} (h : ares P s rows rs fun r => R r rows) : aend P rs R .ret s rows := h
theorem fall_go {rs : List ResultVar} {R : V → List Row → Prop} (h : ares P s rows rs fun r => R r rows) : aend P rs R .normal s rows := h

end

/-! ### Lists of pure values -/
def Pures (cs : List V) : Prop := ∀ x ∈ cs, x.Pure
@[simp] theorem pures_nil : Pures [] := by intro x h; simp at h
@[simp] theorem pures_cons {x : V} {l : List V} : Pures (x :: l) ↔ x.Pure ∧ Pures l := by simp [Pures]
@[simp] theorem pures_append {l m : List V} : Pures (l ++ m) ↔ Pures l ∧ Pures m := by
  simp only [Pures, List.mem_append]
  exact ⟨fun h => ⟨fun x hx => h x (.inl hx), fun x hx => h x (.inr hx)⟩, fun h x hx => hx.elim (h.1 x) (h.2 x)⟩
@[simp] theorem pures_bytes {l : List UInt8} : Pures (l.map byteV) := by
  intro x h; obtain ⟨y, -, rfl⟩ := List.mem_map.1 h; simp
@[simp] theorem pures_strs {l : List (List UInt8)} : Pures (l.map V.str) := by
  intro x h; obtain ⟨y, -, rfl⟩ := List.mem_map.1 h; simp
@[simp] theorem pures_ints {k : IntKind} {l : List Int} : Pures (l.map (V.int k)) := by
  intro x h; obtain ⟨y, -, rfl⟩ := List.mem_map.1 h; simp
@[simp] theorem pures_replicate {n : Nat} {x : V} (hx : x.Pure) : Pures (List.replicate n x) := by
  intro y h; obtain rfl := List.eq_of_mem_replicate h; exact hx
theorem pures_take {n : Nat} {l : List V} (h : Pures l) : Pures (l.take n) := fun x hx => h x (List.mem_of_mem_take hx)
theorem pures_drop {n : Nat} {l : List V} (h : Pures l) : Pures (l.drop n) := fun x hx => h x (List.mem_of_mem_drop hx)
@[simp] theorem rowRen_pures {ex : Bool} {m : List (Option Nat)} {cs : List V} (h : Pures cs) : RowRen ex m (.live cs) (.live cs) ↔ True := rowRen_self h

/-! ### Operations that make no row -/
theorem opNew_move {a0} : opNew (.move a0) = false := rfl
theorem opNew_assign {a0} : opNew (.assign a0) = false := rfl
theorem opNew_pick {a0 a1 a2} : opNew (.pick a0 a1 a2) = false := rfl
theorem opNew_load {a0 a1} : opNew (.load a0 a1) = false := rfl
theorem opNew_store {a0 a1 a2} : opNew (.store a0 a1 a2) = false := rfl
theorem opNew_nilCheck {a0} : opNew (.nilCheck a0) = false := rfl
theorem opNew_binOp {a0 a1 a2 a3 a4} : opNew (.binOp a0 a1 a2 a3 a4) = false := rfl
theorem opNew_unOp {a0 a1 a2} : opNew (.unOp a0 a1 a2) = false := rfl
theorem opNew_build {a0 a1} : opNew (.build a0 a1) = false := rfl
theorem opNew_makeFunc {a0 a1 a2} : opNew (.makeFunc a0 a1 a2) = false := rfl
theorem opNew_makeInterface {a0 a1} : opNew (.makeInterface a0 a1) = false := rfl
theorem opNew_slice {a0 a1 a2 a3 a4} : opNew (.slice a0 a1 a2 a3 a4) = false := rfl
theorem opNew_fieldAddr {a0 a1 a2} : opNew (.fieldAddr a0 a1 a2) = false := rfl
theorem opNew_field {a0 a1 a2} : opNew (.field a0 a1 a2) = false := rfl
theorem opNew_indexAddr {a0 a1 a2} : opNew (.indexAddr a0 a1 a2) = false := rfl
theorem opNew_index {a0 a1 a2} : opNew (.index a0 a1 a2) = false := rfl
theorem opNew_extract {a0 a1} : opNew (.extract a0 a1) = false := rfl
theorem opNew_alloc {a0} : opNew (.alloc a0) = true := rfl
theorem opNew_box {a0 a1} : opNew (.box a0 a1) = true := rfl
theorem opNew_buildSlice {a0 a1 a2} : opNew (.buildSlice a0 a1 a2) = true := rfl
theorem opNew_makeSlice {a0 a1 a2} : opNew (.makeSlice a0 a1 a2) = true := rfl
theorem opNew_convert {a0 a1 a2} : opNew (.convert a0 a1 a2) = true := rfl
theorem opNew_value {f a b} : opNew (.call ⟨.value f, a, b⟩) = false := rfl
theorem opNew_len {a b} : opNew (.call ⟨.builtin .len, a, b⟩) = false := rfl
theorem opNew_copy {a b} : opNew (.call ⟨.builtin .copy, a, b⟩) = false := rfl
theorem opNew_append {a b} : opNew (.call ⟨.builtin .append, a, b⟩) = true := rfl

end Go.VS
