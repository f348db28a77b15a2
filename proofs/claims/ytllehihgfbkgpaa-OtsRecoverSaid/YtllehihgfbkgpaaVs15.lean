/-
  VALUE SEMANTICS, 15: what an operation's effect hangs on (for regions that draw their order).
  Conditions: none; over any program.
-/
import Derived.Test.YtllehihgfbkgpaaVs13
set_option linter.unusedSimpArgs false
set_option linter.unusedVariables false
namespace Go.VS

section
variable {P : Program}

/-! ### One outcome -/

theorem cont_aint {op : BinOp} {kd kd' : IntKind} {a b : Int} {k : V → Prop} (h : aint op kd a kd' b k) : ∃ v, k v ∧ ∀ k2 : V → Prop, k2 v → aint op kd a kd' b k2 := by
  cases op <;> simp only [aint] at h ⊢
  case quo => obtain ⟨h1, h2, h3⟩ := h; exact ⟨_, h3, fun k2 h => ⟨h1, h2, h⟩⟩
  case rem => obtain ⟨h1, h2, h3⟩ := h; exact ⟨_, h3, fun k2 h => ⟨h1, h2, h⟩⟩
  all_goals (obtain ⟨h1, h2⟩ := h; exact ⟨_, h2, fun k2 h => ⟨h1, h⟩⟩)

theorem cont_astr {op : BinOp} {a b : List UInt8} {k : V → Prop} (h : astr op a b k) : ∃ v, k v ∧ ∀ k2 : V → Prop, k2 v → astr op a b k2 := by
  cases op <;> simp only [astr] at h ⊢
  case add => obtain ⟨h1, h2⟩ := h; exact ⟨_, h2, fun k2 h => ⟨h1, h⟩⟩
  all_goals first | exact ⟨_, h, fun k2 h => h⟩ | exact h.elim

theorem cont_abin {op : BinOp} {xt : TypeId} {x y : V} {k : V → Prop} (h : abin P op xt x y k) : ∃ v, k v ∧ ∀ k2 : V → Prop, k2 v → abin P op xt x y k2 := by
  unfold abin at h ⊢
  split at h
  · exact cont_aint h
  · exact cont_astr h
  · split at h
    · obtain ⟨h1, h2, r, h3, h4⟩ := h; exact ⟨_, h4, fun k2 h => ⟨h1, h2, r, h3, h⟩⟩
    · obtain ⟨h1, h2, r, h3, h4⟩ := h; exact ⟨_, h4, fun k2 h => ⟨h1, h2, r, h3, h⟩⟩
    · exact h.elim

theorem cont_aun {op : UnOp} {x : V} {k : V → Prop} (h : aun op x k) : ∃ v, k v ∧ ∀ k2 : V → Prop, k2 v → aun op x k2 := by
  unfold aun at h ⊢
  split at h <;> first | exact ⟨_, h, fun k2 h => h⟩ | exact h.elim

theorem cont_apart {t : TypeId} {cs : List V} {off : Nat} {k : V → Prop} (h : apart P t cs off k) : ∃ v, k v ∧ ∀ k2 : V → Prop, k2 v → apart P t cs off k2 := by
  unfold apart at h ⊢
  split at h
  · obtain ⟨n, h1, h2⟩ := h; exact ⟨_, h2, fun k2 h => ⟨n, h1, h⟩⟩
  · obtain ⟨n, h1, h2⟩ := h; exact ⟨_, h2, fun k2 h => ⟨n, h1, h⟩⟩
  · exact h.elim

theorem cont_acells {t : TypeId} {cs : List V} {off : Nat} {k : V → Prop} (h : acells P t cs off k) : ∃ v, k v ∧ ∀ k2 : V → Prop, k2 v → acells P t cs off k2 := by
  unfold acells at h ⊢
  split at h
  · obtain ⟨n, h1, h2, h3⟩ := h; exact ⟨_, h3, fun k2 h => ⟨n, h1, h2, h⟩⟩
  · obtain ⟨n, h1, h2⟩ := h; exact ⟨_, h2, fun k2 h => ⟨n, h1, h⟩⟩
  · exact h.elim

theorem cont_afield {t : TypeId} {x : V} {f : Nat} {k : V → Prop} (h : afield P t x f k) : ∃ v, k v ∧ ∀ k2 : V → Prop, k2 v → afield P t x f k2 := by
  unfold afield at h ⊢
  split at h
  · obtain ⟨ft, o, h1, h2⟩ := h
    obtain ⟨v, h3, h4⟩ := cont_apart h2
    exact ⟨v, h3, fun k2 h => ⟨ft, o, h1, h4 k2 h⟩⟩
  · exact h.elim

theorem cont_aindex {t : TypeId} {x ix : V} {k : V → Prop} (h : aindex P t x ix k) : ∃ v, k v ∧ ∀ k2 : V → Prop, k2 v → aindex P t x ix k2 := by
  unfold aindex at h ⊢
  split at h
  · split at h
    · obtain ⟨n, e, sz, h1, h2, h3, h4, h5⟩ := h
      obtain ⟨v, h6, h7⟩ := cont_apart h5
      exact ⟨v, h6, fun k2 h => ⟨n, e, sz, h1, h2, h3, h4, h7 k2 h⟩⟩
    · obtain ⟨h1, h2, b, h3, h4⟩ := h
      exact ⟨_, h4, fun k2 h => ⟨h1, h2, b, h3, h⟩⟩
    · exact h.elim
  · exact h.elim

theorem cont_alen {t : TypeId} {x : V} {k : V → Prop} (h : alen P t x k) : ∃ v, k v ∧ ∀ k2 : V → Prop, k2 v → alen P t x k2 := by
  unfold alen at h ⊢
  split at h
  · exact ⟨_, h.2, fun k2 h' => ⟨h.1, h'⟩⟩
  · exact ⟨_, h.2, fun k2 h' => ⟨h.1, h'⟩⟩
  · exact ⟨_, h.2, fun k2 h' => ⟨h.1, h'⟩⟩
  · exact ⟨_, h.2, fun k2 h' => ⟨h.1, h'⟩⟩
  · obtain ⟨n, e, h1, h2⟩ := h; exact ⟨_, h2, fun k2 h => ⟨n, e, h1, h⟩⟩

theorem cont_aminmax {mx : Bool} {xs : List V} {k : V → Prop} (h : aminmax mx xs k) : ∃ v, k v ∧ ∀ k2 : V → Prop, k2 v → aminmax mx xs k2 := by
  unfold aminmax at h ⊢
  split at h
  · exact ⟨_, h.2, fun k2 h' => ⟨h.1, h'⟩⟩
  · exact ⟨_, h.2.2, fun k2 h' => ⟨h.1, h.2.1, h'⟩⟩
  · exact h.elim

theorem cont_afill {place : Nat → Option (Nat × Nat)} {ρ : Operand → V} : ∀ {parts : List (Nat × Operand)} {cs : List V} {k : List V → Prop}, afill place ρ parts cs k → ∃ ds, k ds ∧ ∀ k2 : List V → Prop, k2 ds → afill place ρ parts cs k2
  | [], cs, k, h => ⟨cs, h, fun k2 h => h⟩
  | (i, x) :: r, cs, k, h => by
    obtain ⟨off, sz, vs, h1, h2, h3, h4, h5⟩ := h
    obtain ⟨ds, h6, h7⟩ := cont_afill h5
    exact ⟨ds, h6, fun k2 h => ⟨off, sz, vs, h1, h2, h3, h4, h7 k2 h⟩⟩

theorem cont_abound {o : Option V} {d : Nat} {k : Nat → Prop} (h : abound o d k) : ∃ n, k n ∧ ∀ k2 : Nat → Prop, k2 n → abound o d k2 := by
  unfold abound at h ⊢
  split at h
  · exact ⟨_, h, fun k2 h => h⟩
  · exact ⟨_, h.2, fun k2 h' => ⟨h.1, h'⟩⟩
  · exact h.elim

theorem cont_bounds {lo hi : Option V} {n : Nat} {k : Nat → Nat → Prop} (h : abound hi n fun e => abound lo 0 fun l => l ≤ e ∧ e ≤ n ∧ k l e) :
    ∃ l e, k l e ∧ ∀ k2 : Nat → Nat → Prop, k2 l e → abound hi n fun e => abound lo 0 fun l => l ≤ e ∧ e ≤ n ∧ k2 l e := by
  obtain ⟨e, h1, h2⟩ := cont_abound h
  obtain ⟨l, ⟨h3, h4, h5⟩, h6⟩ := cont_abound h1
  exact ⟨l, e, h5, fun k2 h => h2 _ (h6 _ ⟨h3, h4, h⟩)⟩

/-! ### Readings of rows -/

/-- rows2 knows what rows knows, but for numbers that are still kept for later there. -/
def Agree (rows rows2 : List Row) : Prop := ∀ (j : Nat) cs, rows[j]? = some (.live cs) → rows2[j]? = some (.live cs) ∨ rows2[j]? = some .resv

theorem seen_ref {c : Ctx} {rows : List Row} {w : World} {ro : Nat → Prop} {ρ : Rho} {u : Value} {id off : Nat} (g : Good c rows w ro ρ) (h : Rd w ro ρ u (.ref id off)) : rows[id]? ≠ some .resv := by
  intro hr
  have := g.row id _ hr
  cases h with
  | ref h1 h2 h3 h4 =>
    simp only [RowOk] at this
    rw [this] at h1
    simp at h1
    exact h2 h1.symm

theorem seen_osl {c : Ctx} {rows : List Row} {w : World} {ro : Nat → Prop} {ρ : Rho} {u : Value} {id off n sz : Nat} (g : Good c rows w ro ρ) (h : Rd w ro ρ u (.osl id off n sz)) : rows[id]? ≠ some .resv := by
  intro hr
  have := g.row id _ hr
  simp only [RowOk] at this
  cases h with
  | osl0 h1 h2 h3 =>
    rw [this] at h1
    simp at h1
    exact h2 h1.symm
  | osl h1 h2 h3 h4 =>
    rw [this] at h1
    simp at h1
    exact h2 h1.symm

section
variable {c : Ctx} {rows rows2 : List Row} {w : World} {ro : Nat → Prop} {ρ : Rho}

theorem Agree.ref (ha : Agree rows rows2) (g : Good c rows2 w ro ρ) {u : Value} {id off : Nat} {cs : List V} (h : Rd w ro ρ u (.ref id off)) (hl : rows[id]? = some (.live cs)) : rows2[id]? = some (.live cs) :=
  (ha id cs hl).resolve_right (seen_ref g h)

theorem Agree.osl (ha : Agree rows rows2) (g : Good c rows2 w ro ρ) {u : Value} {id off n sz : Nat} {cs : List V} (h : Rd w ro ρ u (.osl id off n sz)) (hl : rows[id]? = some (.live cs)) : rows2[id]? = some (.live cs) :=
  (ha id cs hl).resolve_right (seen_osl g h)

theorem Good.cellRd (g : Good c rows2 w ro ρ) {id : Nat} {cs : List V} (hl : rows2[id]? = some (.live cs)) {i : Nat} {x : V} (hx : cs[i]? = some x) : ∃ u, Rd w ro ρ u x := by
  rcases g.row id _ hl with ⟨y, hy, hat⟩ | ⟨hc, -⟩
  · obtain ⟨u, -, hr⟩ := hat.cellsAt i x hx
    exact ⟨u, hr⟩
  · subst hc; simp at hx

theorem rd_fn {u : Value} {f : Fn} {cs : List V} (h : Rd w ro ρ u (.fn f cs)) : ∃ us : List Value, Rds w ro ρ us cs := by
  cases h with
  | fn h0 h1 h2 => exact ⟨_, by rw [Array.length_toList]; exact h1, fun i u x hu hx => h2 i u x (by simpa using hu) hx⟩

theorem View.agree (ha : Agree rows rows2) (g : Good c rows2 w ro ρ) {x y : V} (h : View rows x y) : ∀ {u : Value}, Rd w ro ρ u x → View rows2 x y := by
  induction h with
  | pure hp => exact fun _ => .pure hp
  | junk => exact fun _ => .junk
  | osl h1 h2 h3 _ ih =>
    intro u hu
    have hl := ha.osl g hu h1
    refine .osl hl h2 h3 fun i x y hx hy => ?_
    obtain ⟨u', hu'⟩ := g.cellRd hl hx
    exact ih i x y hx hy hu'
  | ref h1 h2 h3 _ ih =>
    intro u hu
    have hl := ha.ref g hu h1
    refine .ref hl h2 h3 fun i x y hx hy => ?_
    obtain ⟨u', hu'⟩ := g.cellRd hl hx
    exact ih i x y hx hy hu'
  | fn hl _ ih =>
    intro u hu
    obtain ⟨us, hus⟩ := rd_fn hu
    refine .fn hl fun i x y hx hy => ?_
    obtain ⟨u', -, hr⟩ := hus.get hx
    exact ih i x y hx hy hr
  | iface _ ih =>
    intro u hu
    cases hu with
    | iface h => exact .iface (ih h)
  | agg hl _ ih =>
    intro u hu
    obtain ⟨us, rfl, hus⟩ := rd_agg hu
    refine .agg hl fun i x y hx hy => ?_
    obtain ⟨u', -, hr⟩ := hus.get hx
    exact ih i x y hx hy hr
  | tup hl _ ih =>
    intro u hu
    obtain ⟨us, rfl, hus⟩ := rd_tup hu
    refine .tup hl fun i x y hx hy => ?_
    obtain ⟨u', -, hr⟩ := hus.get hx
    exact ih i x y hx hy hr

theorem Views.agree (ha : Agree rows rows2) (g : Good c rows2 w ro ρ) : ∀ {xs ys : List V} {us : List Value}, Views rows xs ys → Rds w ro ρ us xs → Views rows2 xs ys
  | [], [], us, _, _ => trivial
  | [], _ :: _, us, h, _ => h.elim
  | _ :: _, [], us, h, _ => h.elim
  | x :: xs, y :: ys, [], h, hu => by simp [Rds] at hu
  | x :: xs, y :: ys, u :: us, h, hu =>
    ⟨h.1.agree ha g (hu.2 0 u x rfl rfl), Views.agree ha g (us := us) h.2 ⟨by simpa using hu.1, fun i a b ha hb => hu.2 (i + 1) a b (by simpa using ha) (by simpa using hb)⟩⟩

theorem tr_ashown {sz : Nat} {x : V} {k : Nat → List V → Prop} (h : ashown sz x rows k) : ∃ n cs, k n cs ∧ (∀ k2 : Nat → List V → Prop, k2 n cs → ashown sz x rows k2) ∧
    (∀ (c : Ctx) (rows2 : List Row) (w : World) (ro : Nat → Prop) (ρ : Rho) (u : Value), Agree rows rows2 → Good c rows2 w ro ρ → Rd w ro ρ u x → ∀ k2 : Nat → List V → Prop, k2 n cs → ashown sz x rows2 k2) := by
  cases x with
  | nils => exact ⟨_, _, h, fun k2 h => h, fun _ _ _ _ _ _ _ _ _ k2 h => h⟩
  | sl n cs => exact ⟨_, _, h.2, fun k2 h' => ⟨h.1, h'⟩, fun _ _ _ _ _ _ _ _ _ k2 h' => ⟨h.1, h'⟩⟩
  | osl id off n sz' =>
    obtain ⟨h1, cs, h2, h3, h4⟩ := h
    exact ⟨_, _, h4, fun k2 h' => ⟨h1, cs, h2, h3, h'⟩, fun _ _ _ _ _ _ ha g hu k2 h' => ⟨h1, cs, ha.osl g hu h2, h3, h'⟩⟩
  | str s => exact ⟨_, _, h.2, fun k2 h' => ⟨h.1, h'⟩, fun _ _ _ _ _ _ _ _ _ k2 h' => ⟨h.1, h'⟩⟩
  | _ => exact False.elim h

end

/-! ### Kinds of operations -/

def upd (rows : List Row) (id : Nat) : Option (List V) → List Row
  | none => rows
  | some cs => rput rows id (.live cs)

/-- 0: no memory; 1: a new row; 2: reads rows (and may make one); 3: writes. -/
def opKind : Op → Nat
  | .move _ | .assign _ | .pick _ _ _ | .build _ _ | .nilCheck _ | .binOp _ _ _ _ _ | .unOp _ _ _ | .makeFunc _ _ _ | .makeInterface _ _ | .fieldAddr _ _ _ | .field _ _ _ | .indexAddr _ _ _ | .index _ _ _ | .extract _ _ => 0
  | .alloc _ | .box _ _ | .buildSlice _ _ _ | .makeSlice _ _ _ => 1
  | .load _ _ | .slice _ _ _ _ _ | .convert _ _ _ => 2
  | .call c => (match c.callee with
    | .builtin .len | .builtin .min | .builtin .max => 0
    | .value _ => 2
    | _ => 3)
  | _ => 3

/-- May the operation make a row? -/
def opAllocs (P : Program) : Op → Bool
  | .alloc _ | .box _ _ | .buildSlice _ _ _ | .makeSlice _ _ _ => true
  | .convert _ d _ => (uslice P d).isSome
  | .call c => (match c.callee with
    | .builtin .append => true
    | _ => false)
  | _ => false

/-- The outcome of an operation without memory. -/
theorem aeff_pure {op : Op} {id : Nat} {s : List V} {rows : List Row} {k : KV} (hk : opKind op = 0) (h : aeff P true op id s rows k) :
    ∃ v, k v rows ∧ ∀ id2 rows2 (k2 : KV), k2 v rows2 → aeff P true op id2 s rows2 k2 := by
  cases op <;> simp only [opKind] at hk <;> (try (exact absurd hk (by decide))) <;> simp only [aeff] at h ⊢
  case move x => exact ⟨_, h, fun _ _ k2 h => h⟩
  case assign x => exact ⟨_, h, fun _ _ k2 h => h⟩
  case pick q x y =>
    cases hq : oval s q with
    | bool t =>
      rw [hq] at h
      simp only at h
      cases t with
      | true => exact ⟨_, by simpa using h, fun _ _ k2 h => by simpa using h⟩
      | false => exact ⟨_, by simpa using h, fun _ _ k2 h => by simpa using h⟩
    | _ => rw [hq] at h; exact h.elim
  case build t parts =>
    obtain ⟨z, h1, h2, h3⟩ := h
    obtain ⟨ds, h4, h5⟩ := cont_afill h3
    exact ⟨_, h4, fun _ _ k2 h => ⟨z, h1, h2, h5 _ h⟩⟩
  case nilCheck x =>
    cases hx : oval s x with
    | ref id off => rw [hx] at h; exact ⟨_, h, fun _ _ k2 h => h⟩
    | rptr cs => rw [hx] at h; exact ⟨_, h, fun _ _ k2 h => h⟩
    | fn f cap =>
      rw [hx] at h
      cases f with
      | func f => exact ⟨_, h, fun _ _ k2 h => h⟩
      | _ => exact h.elim
    | _ => rw [hx] at h; exact h.elim
  case binOp op xt x y yt => obtain ⟨v, h1, h2⟩ := cont_abin h; exact ⟨v, h1, fun _ rows2 k2 h => h2 (fun v => k2 v rows2) h⟩
  case unOp op t x => obtain ⟨v, h1, h2⟩ := cont_aun h; exact ⟨v, h1, fun _ rows2 k2 h => h2 (fun v => k2 v rows2) h⟩
  case makeFunc fn first cap => exact ⟨_, h.2, fun _ _ k2 h' => ⟨h.1, h'⟩⟩
  case makeInterface t x => exact ⟨_, h.2, fun _ _ k2 h' => ⟨h.1, h'⟩⟩
  case fieldAddr t x f =>
    obtain ⟨ft, o, n, h1, h2, h3⟩ := h
    cases hx : oval s x with
    | ref id off => rw [hx] at h3; exact ⟨_, h3, fun _ _ k2 h => ⟨ft, o, n, h1, h2, h⟩⟩
    | rptr cs => rw [hx] at h3; exact ⟨_, h3, fun _ _ k2 h => ⟨ft, o, n, h1, h2, h⟩⟩
    | _ => rw [hx] at h3; exact False.elim h3
  case field t x f => obtain ⟨v, h1, h2⟩ := cont_afield h; exact ⟨v, h1, fun _ rows2 k2 h => h2 (fun v => k2 v rows2) h⟩
  case indexAddr t x i =>
    generalize oval s i = ix at h
    generalize oval s x = x at h
    cases ix with
    | int kd n =>
      cases x with
      | sl m cs => obtain ⟨e, sz, h1, h2, h3, h4, h5⟩ := h; exact ⟨_, h5, fun _ _ k2 h => ⟨e, sz, h1, h2, h3, h4, h⟩⟩
      | osl id off m sz => obtain ⟨e, h1, h2, h3, h4, h5⟩ := h; exact ⟨_, h5, fun _ _ k2 h => ⟨e, h1, h2, h3, h4, h⟩⟩
      | ref id off => obtain ⟨m, e, sz, h1, h2, h3, h4, h5⟩ := h; exact ⟨_, h5, fun _ _ k2 h => ⟨m, e, sz, h1, h2, h3, h4, h⟩⟩
      | rptr cs => obtain ⟨m, e, sz, h1, h2, h3, h4, h5⟩ := h; exact ⟨_, h5, fun _ _ k2 h => ⟨m, e, sz, h1, h2, h3, h4, h⟩⟩
      | _ => exact False.elim h
    | _ => exact False.elim h
  case index t x i => obtain ⟨v, h1, h2⟩ := cont_aindex h; exact ⟨v, h1, fun _ rows2 k2 h => h2 (fun v => k2 v rows2) h⟩
  case extract t i =>
    cases ht : oval s t with
    | tup vs => rw [ht] at h; obtain ⟨v, h1, h2⟩ := h; exact ⟨v, h2, fun _ _ k2 h => ⟨v, h1, h⟩⟩
    | _ => rw [ht] at h; exact h.elim
  case call q =>
    obtain ⟨callee, args, ts⟩ := q
    cases callee with
    | builtin b =>
      cases b <;> simp only at hk <;> (try (exact absurd hk (by decide))) <;> simp only at h ⊢
      case len =>
        generalize args.toList.map (oval s) = xs at h
        match xs, h with
        | [x], h =>
          obtain ⟨t, h1, h2⟩ := h
          obtain ⟨v, h3, h4⟩ := cont_alen h2
          exact ⟨v, h3, fun _ rows2 k2 h => ⟨t, h1, h4 (fun v => k2 v rows2) h⟩⟩
        | [], h => exact False.elim h
        | _ :: _ :: _, h => exact False.elim h
      case max => obtain ⟨v, h1, h2⟩ := cont_aminmax (show aminmax true (args.toList.map (oval s)) (fun v => k v rows) from h); exact ⟨v, h1, fun _ rows2 k2 h => h2 (fun v => k2 v rows2) h⟩
      case min => obtain ⟨v, h1, h2⟩ := cont_aminmax (show aminmax false (args.toList.map (oval s)) (fun v => k v rows) from h); exact ⟨v, h1, fun _ rows2 k2 h => h2 (fun v => k2 v rows2) h⟩
    | _ => simp at hk


end
end Go.VS
