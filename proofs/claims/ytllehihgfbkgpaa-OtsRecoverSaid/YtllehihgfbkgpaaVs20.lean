/-
  VALUE SEMANTICS, 20: one operation at a time.
  Conditions: none; over any program.
-/
import Derived.Test.YtllehihgfbkgpaaVs19
set_option linter.unusedSimpArgs false
set_option linter.unusedVariables false
namespace Go.VS

section
variable {P : Program} {ops : Array Oper} {s : List V} {rows : List Row} {K : KS} {o : Oper} {os : List Oper} {ms : List Bool} {id : Nat}

theorem arun_end (h : K s rows) : arun P ops [] s rows K := h

/-- An operation that is met. -/
theorem arun_go (hg : gval ops o.guard s = some true) (h : ∀ K2 : KV, (∀ v rows', arun P ops os (sput s o.dst v) rows' K → K2 v rows') → aeff P false o.op rows.length s rows K2) : arun P ops (o :: os) s rows K :=
  aguard_iff.2 (.inl ⟨hg, h _ fun _ _ h => h⟩)

/-- An operation that is passed over. -/
theorem arun_no (hg : gval ops o.guard s = some false) (h : arun P ops os (sput s o.dst .junk) rows K) : arun P ops (o :: os) s rows K :=
  aguard_iff.2 (.inr ⟨hg, h⟩)

theorem arunD_end (h : K s rows) : arunD P ops ms [] id s rows K := h

theorem arunD_go (hg : gval ops o.guard s = some true) (h : ∀ K2 : KV, (∀ v rows', arunD P ops ms.tail os (if opNew o.op = true then id + 1 else id) (sput s o.dst v) rows' K → K2 v rows') → aeffM P (ms.headD false) o.op id s rows K2) : arunD P ops ms (o :: os) id s rows K :=
  aguard_iff.2 (.inl ⟨hg, h _ fun _ _ h => h⟩)

theorem arunD_no (hg : gval ops o.guard s = some false) (h : arunD P ops ms.tail os (if opNew o.op = true then id + 1 else id) (sput s o.dst .junk) rows K) : arunD P ops ms (o :: os) id s rows K :=
  aguard_iff.2 (.inr ⟨hg, h⟩)

end

/-- A sequence, where what comes next is proved once for several ends of the first part. -/
theorem awp_seq' {n0 : Nat} {P : Program} {Q : Exit → KS} {s : List V} {rows : List Row} {x y : Code}
    (h : ∀ K : KS, (∀ s rows, AWp P n0 y Q s rows → K s rows) → (∀ s rows s' rows', Le n0 s rows s' rows' → K s' rows' → K s rows) → AWp P n0 x (athen K Q) s rows) : AWp P n0 (.seq x y) Q s rows := by
  refine awp_seq fun K hK => awp_mono (h (AWp P n0 y Q) (fun _ _ h => h) (fun _ _ _ _ hl h => awp_le hl h)) fun e s rows he => ?_
  cases e <;> first | exact hK _ _ he | exact he

/-- '==' on arrays of bytes. -/
theorem aeq_bytes {P : Program} {t e n m : Nat} {a b : List UInt8} {k : IntKind} (ht : P.underlying t = some (.array n e)) (he : P.underlying e = some (.int k)) (hz : usz P e = some 1) (hg : uagg P e = some false) (ha : a.length = n) (hb : b.length = n) :
    aeq P (m + 2) t (.agg (a.map byteV)) (.agg (b.map byteV)) = some (a == b) := by
  have step : ∀ (l : List Nat), (∀ i ∈ l, i < n) → l.foldr (fun i acc => match opart P e (a.map byteV) (i * 1), opart P e (b.map byteV) (i * 1) with
      | some x, some y => (match aeq P (m + 1) e x y with | some true => acc | some false => some false | none => none)
      | _, _ => none) (some true) = some (l.all fun i => a[i]? == b[i]?) := by
    intro l
    induction l with
    | nil => intro _; rfl
    | cons i l ih =>
      intro hl
      have hi := hl i (by simp)
      have e1 : opart P e (a.map byteV) (i * 1) = some (byteV (a[i]'(by omega))) := by simp [opart, hg, ha, hi]
      have e2 : opart P e (b.map byteV) (i * 1) = some (byteV (b[i]'(by omega))) := by simp [opart, hg, hb, hi]
      have e3 : aeq P (m + 1) e (byteV (a[i]'(by omega))) (byteV (b[i]'(by omega))) = some (a[i]'(by omega) == b[i]'(by omega)) := by
        simp only [aeq, he, byteV, if_true]
        congr 1
        rw [Bool.eq_iff_iff]
        simp only [beq_iff_eq]
        constructor
        · intro h; exact UInt8.toNat_inj.1 (by exact_mod_cast h)
        · intro h; rw [h]
      simp only [List.foldr_cons, e1, e2, e3, ih fun j hj => hl j (by simp [hj]), List.all_cons]
      have q1 : a[i]? = some (a[i]'(by omega)) := List.getElem?_eq_getElem (by omega)
      have q2 : b[i]? = some (b[i]'(by omega)) := List.getElem?_eq_getElem (by omega)
      cases hq : (a[i]'(by omega) == b[i]'(by omega)) with
      | true =>
        have : (a[i]? == b[i]?) = true := by rw [q1, q2]; simpa using hq
        simp [this]
      | false =>
        have : (a[i]? == b[i]?) = false := by rw [q1, q2]; simpa using hq
        simp [this]
  show aeq P ((m + 1) + 1) t _ _ = _
  generalize m + 1 = d at step ⊢
  simp only [aeq, ht, hz]
  refine Eq.trans (step (List.range n) (by simp)) ?_
  congr 1
  rw [Bool.eq_iff_iff]
  simp only [List.all_eq_true, List.mem_range, beq_iff_eq]
  constructor
  · intro h
    apply List.ext_getElem?
    intro i
    rcases Nat.lt_or_ge i n with h1 | h1
    · exact h i h1
    · rw [List.getElem?_eq_none (by omega), List.getElem?_eq_none (by omega)]
  · rintro rfl i _; rfl

attribute [simp] gval

def uptr (P : Program) (t : TypeId) : Bool := match P.underlying t with
  | some (.pointer _) => true
  | _ => false
def ubool (P : Program) (t : TypeId) : Bool := match P.underlying t with
  | some .bool => true
  | _ => false

section
variable {P : Program} {t e d : Nat}
theorem uptr_of (h : uptr P t = true) : ∃ e, P.underlying t = some (.pointer e) := by
  unfold uptr at h
  split at h
  · exact ⟨_, by assumption⟩
  · simp at h
theorem ubool_of (h : ubool P t = true) : P.underlying t = some .bool := by
  unfold ubool at h
  split at h
  · assumption
  · simp at h
@[simp] theorem aeq_nilp (h : uptr P t = true) : aeq P (d + 1) t .nilp .nilp = some true := by
  obtain ⟨e, he⟩ := uptr_of h; simp [aeq, he]
@[simp] theorem aeq_ref_nilp {i o : Nat} (h : uptr P t = true) : aeq P (d + 1) t (.ref i o) .nilp = some false := by
  obtain ⟨e, he⟩ := uptr_of h; simp [aeq, he]
@[simp] theorem aeq_nilp_ref {i o : Nat} (h : uptr P t = true) : aeq P (d + 1) t .nilp (.ref i o) = some false := by
  obtain ⟨e, he⟩ := uptr_of h; simp [aeq, he]
@[simp] theorem aeq_rptr_nilp {c : List V} (h : uptr P t = true) : aeq P (d + 1) t (.rptr c) .nilp = some false := by
  obtain ⟨e, he⟩ := uptr_of h; simp [aeq, he]
@[simp] theorem aeq_nilp_rptr {c : List V} (h : uptr P t = true) : aeq P (d + 1) t .nilp (.rptr c) = some false := by
  obtain ⟨e, he⟩ := uptr_of h; simp [aeq, he]
@[simp] theorem aeq_bool {a b : Bool} (h : ubool P t = true) : aeq P (d + 1) t (.bool a) (.bool b) = some (a == b) := by
  have := ubool_of h; simp [aeq, this]
end

end Go.VS
