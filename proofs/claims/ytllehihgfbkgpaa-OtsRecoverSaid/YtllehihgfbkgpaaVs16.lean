/-
  VALUE SEMANTICS, 16: two operations in either order.
  Conditions: none; over any program.
-/
import Derived.Test.YtllehihgfbkgpaaVs15
set_option linter.unusedSimpArgs false
set_option linter.unusedVariables false
namespace Go.VS

section
variable {P : Program}

/-- The outcome of an operation that writes nothing: in rows that know the same of what it reads, the same. -/
theorem aeff_read {op : Op} {id : Nat} {s : List V} {rows : List Row} {k : KV} (hk : opKind op ≠ 3) (h : aeff P true op id s rows k) :
    ∃ v e, k v (upd rows id e) ∧ (e ≠ none → Free rows id ∧ opAllocs P op = true) ∧ (∀ k2 : KV, k2 v (upd rows id e) → aeff P true op id s rows k2) ∧
      (∀ (c : Ctx) (rows2 : List Row) (w : World) (ro : Nat → Prop) (ρ : Rho), Agree rows rows2 → (e ≠ none → Free rows2 id) → Good c rows2 w ro ρ → (∀ x ∈ op.operands, ∃ u, Rd w ro ρ u (oval s x)) → ∀ k2 : KV, k2 v (upd rows2 id e) → aeff P true op id s rows2 k2) := by
  by_cases h0 : opKind op = 0
  · obtain ⟨v, h1, h2⟩ := aeff_pure h0 h
    exact ⟨v, none, h1, fun h => absurd rfl h, fun k2 h => h2 id rows k2 h, fun _ rows2 _ _ _ _ _ _ _ k2 h => h2 id rows2 k2 h⟩
  cases op <;> simp only [opKind] at hk h0 <;> (try (exact absurd rfl hk)) <;> (try (exact absurd trivial h0)) <;> simp only [aeff] at h ⊢
  case alloc e =>
    obtain ⟨z, h1, h2, h3⟩ := h
    exact ⟨_, some z, h3, fun _ => ⟨h2, rfl⟩, fun k2 h => ⟨z, h1, h2, h⟩, fun _ rows2 _ _ _ _ hf _ _ k2 h => ⟨z, h1, hf (by simp), h⟩⟩
  case box e v =>
    obtain ⟨vs, h1, h2, h3⟩ := h
    exact ⟨_, some vs, h3, fun _ => ⟨h2, rfl⟩, fun k2 h => ⟨vs, h1, h2, h⟩, fun _ rows2 _ _ _ _ hf _ _ k2 h => ⟨vs, h1, hf (by simp), h⟩⟩
  case buildSlice t n parts =>
    obtain ⟨e, sz, z, h1, h2, h3, h4, h5, h6, h7⟩ := h
    obtain ⟨ds, h8, h9⟩ := cont_afill h7
    exact ⟨_, some ds, h8, fun _ => ⟨h6, rfl⟩, fun k2 h => ⟨e, sz, z, h1, h2, h3, h4, h5, h6, h9 _ h⟩, fun _ rows2 _ _ _ _ hf _ _ k2 h => ⟨e, sz, z, h1, h2, h3, h4, h5, hf (by simp), h9 _ h⟩⟩
  case makeSlice t l q =>
    generalize oval s l = vl at h
    generalize oval s q = vq at h
    cases vl with
    | int k1 l =>
      cases vq with
      | int k2 q =>
        obtain ⟨e, sz, by', z, h1, h2, h3, h4, h5, h6, h7, h8, h9, h10, h11⟩ := h
        exact ⟨_, some _, h11, fun _ => ⟨h10, rfl⟩, fun k2 h => ⟨e, sz, by', z, h1, h2, h3, h4, h5, h6, h7, h8, h9, h10, h⟩, fun _ rows2 _ _ _ _ hf _ _ k2 h => ⟨e, sz, by', z, h1, h2, h3, h4, h5, h6, h7, h8, h9, hf (by simp), h⟩⟩
      | _ => exact False.elim h
    | _ => exact False.elim h
  case load t a =>
    cases ha : oval s a with
    | ref i off =>
      rw [ha] at h
      obtain ⟨cs, h1, h2, h3⟩ := h
      obtain ⟨v, h4, h5⟩ := cont_acells h3
      refine ⟨v, none, h4, fun h => absurd rfl h, fun k2 h => ⟨cs, h1, h2, h5 _ h⟩, fun c rows2 w ro ρ hag _ g hr k2 h => ?_⟩
      obtain ⟨u, hu⟩ := hr a (by simp [Op.operands])
      rw [ha] at hu
      exact ⟨cs, hag.ref g hu h1, h2, h5 _ h⟩
    | rptr cs =>
      rw [ha] at h
      obtain ⟨v, h4, h5⟩ := cont_acells (show acells P t cs 0 (fun v => k v rows) from h)
      exact ⟨v, none, h4, fun h => absurd rfl h, fun k2 h => h5 (fun v => k2 v rows) h, fun _ rows2 _ _ _ _ _ _ _ k2 h => h5 (fun v => k2 v rows2) h⟩
    | _ => rw [ha] at h; exact False.elim h
  case convert sr d x =>
    cases hx : oval s x with
    | int kd n =>
      rw [hx] at h
      obtain ⟨kd', h1, h2, h3⟩ := h
      exact ⟨_, none, h3, fun h => absurd rfl h, fun k2 h => ⟨kd', h1, h2, h⟩, fun _ rows2 _ _ _ _ _ _ _ k2 h => ⟨kd', h1, h2, h⟩⟩
    | str l =>
      rw [hx] at h
      obtain ⟨h1, h2⟩ := h
      split at h2
      · rename_i hd
        exact ⟨_, none, h2, fun h => absurd rfl h, fun k2 h => ⟨h1, by rw [if_pos hd]; exact h⟩, fun _ rows2 _ _ _ _ _ _ _ k2 h => ⟨h1, by rw [if_pos hd]; exact h⟩⟩
      · rename_i hd
        obtain ⟨e, h3, h4, h5, h6⟩ := h2
        exact ⟨_, some _, h6, fun _ => ⟨h5, by simp [opAllocs, h3]⟩, fun k2 h => ⟨h1, by rw [if_neg hd]; exact ⟨e, h3, h4, h5, h⟩⟩, fun _ rows2 _ _ _ _ hf _ _ k2 h => ⟨h1, by rw [if_neg hd]; exact ⟨e, h3, h4, hf (by simp), h⟩⟩⟩
    | _ =>
      all_goals
        rw [hx] at h
        obtain ⟨h1, h2, h3⟩ := h
        obtain ⟨n, cs, ⟨h4, h5⟩, h6, h7⟩ := tr_ashown h3
        exact ⟨_, none, h5, fun h => absurd rfl h, fun k2 h => ⟨h1, h2, h6 _ ⟨h4, h⟩⟩, fun c rows2 w ro ρ hag _ g hr k2 h => by
          obtain ⟨u, hu⟩ := hr x (by simp [Op.operands])
          rw [hx] at hu
          obtain ⟨n', cs', ⟨h4', h5'⟩, h6', h7'⟩ := tr_ashown (h6 (fun a b => (∀ c ∈ b, c.isByte = true) ∧ b = cs) ⟨h4, rfl⟩)
          subst h5'
          exact ⟨h1, h2, h7' c rows2 w ro ρ u hag g hu _ ⟨h4', h⟩⟩⟩
  case slice t x lo hi mx =>
    obtain ⟨hm, h⟩ := h
    cases hx : oval s x with
    | str l =>
      rw [hx] at h
      obtain ⟨h1, h2⟩ := h
      obtain ⟨a, b, h3, h4⟩ := cont_bounds h2
      exact ⟨_, none, h3, fun h => absurd rfl h, fun k2 h => ⟨hm, h1, h4 (fun a b => k2 (.str ((l.drop a).take (b - a))) rows) h⟩, fun _ rows2 _ _ _ _ _ _ _ k2 h => ⟨hm, h1, h4 (fun a b => k2 (.str ((l.drop a).take (b - a))) rows2) h⟩⟩
    | nils =>
      rw [hx] at h
      obtain ⟨h1, h2⟩ := h
      obtain ⟨a, b, h3, h4⟩ := cont_bounds h2
      exact ⟨_, none, h3, fun h => absurd rfl h, fun k2 h => ⟨hm, h1, h4 (fun a b => k2 .nils rows) h⟩, fun _ rows2 _ _ _ _ _ _ _ k2 h => ⟨hm, h1, h4 (fun a b => k2 .nils rows2) h⟩⟩
    | sl n cs =>
      rw [hx] at h
      obtain ⟨e, sz, h1, h2, h3⟩ := h
      obtain ⟨a, b, h4, h5⟩ := cont_bounds h3
      exact ⟨_, none, h4, fun h => absurd rfl h, fun k2 h => ⟨hm, e, sz, h1, h2, h5 (fun a b => k2 (.sl (b - a) ((cs.drop (a * sz)).take ((b - a) * sz))) rows) h⟩,
        fun _ rows2 _ _ _ _ _ _ _ k2 h => ⟨hm, e, sz, h1, h2, h5 (fun a b => k2 (.sl (b - a) ((cs.drop (a * sz)).take ((b - a) * sz))) rows2) h⟩⟩
    | osl i off n sz =>
      rw [hx] at h
      obtain ⟨e, h1, h2, h3⟩ := h
      obtain ⟨a, b, h4, h5⟩ := cont_bounds h3
      exact ⟨_, none, h4, fun h => absurd rfl h, fun k2 h => ⟨hm, e, h1, h2, h5 (fun a b => k2 (.osl i (off + a * sz) (b - a) sz) rows) h⟩,
        fun _ rows2 _ _ _ _ _ _ _ k2 h => ⟨hm, e, h1, h2, h5 (fun a b => k2 (.osl i (off + a * sz) (b - a) sz) rows2) h⟩⟩
    | ref i off =>
      rw [hx] at h
      obtain ⟨n, e, sz, cs, h1, h2, h3, h4, h5, h6⟩ := h
      obtain ⟨a, b, h7, h8⟩ := cont_bounds h6
      refine ⟨_, none, h7, fun h => absurd rfl h, fun k2 h => ⟨hm, n, e, sz, cs, h1, h2, h3, h4, h5, h8 (fun a b => k2 (.osl i (off + a * sz) (b - a) sz) rows) h⟩, fun c rows2 w ro ρ hag _ g hr k2 h => ?_⟩
      obtain ⟨u, hu⟩ := hr x (by simp [Op.operands])
      rw [hx] at hu
      exact ⟨hm, n, e, sz, cs, h1, h2, hag.ref g hu h3, h4, h5, h8 (fun a b => k2 (.osl i (off + a * sz) (b - a) sz) rows2) h⟩
    | _ => rw [hx] at h; exact False.elim h
  case call q =>
    obtain ⟨callee, args, ts⟩ := q
    cases callee with
    | builtin b => cases b <;> simp at hk h0
    | invoke r m => simp at hk
    | value f =>
      simp only at h ⊢
      cases hf : oval s f with
      | fn fn cap =>
        rw [hf] at h
        cases fn with
        | func f' =>
          rcases h with h | ⟨h, -⟩
          · rcases h with ⟨args', r, h1, h2, h3, h4⟩ | ⟨r, h1, h2, h3⟩
            · refine ⟨r, none, h4, fun h => absurd rfl h, fun k2 h => .inl (.inl ⟨args', r, h1, h2, h3, h⟩), fun c rows2 w ro ρ hag _ g hr k2 h => .inl (.inl ⟨args', r, ?_, h2, h3, h⟩)⟩
              have hex : ∀ xs : List Operand, (∀ x ∈ xs, ∃ u, Rd w ro ρ u (oval s x)) → ∃ us, Rds w ro ρ us (xs.map (oval s)) := by
                intro xs
                induction xs with
                | nil => intro _; exact ⟨[], rfl, fun i u x h => by simp at h⟩
                | cons x xs ih =>
                  intro hx
                  obtain ⟨u, hu⟩ := hx x (by simp)
                  obtain ⟨us, hus⟩ := ih fun y hy => hx y (by simp [hy])
                  refine ⟨u :: us, by simp [hus.1], fun i a b ha hb => ?_⟩
                  cases i with
                  | zero => simp at ha hb; subst ha; subst hb; exact hu
                  | succ i => exact hus.2 i a b (by simpa using ha) (by simpa using hb)
              obtain ⟨us, hus⟩ := hex args.toList fun x hx => hr x (by simp [Op.operands, Call.operands]; exact .inr (by simpa using hx))
              obtain ⟨uf, huf⟩ := hr f (by simp [Op.operands, Call.operands])
              rw [hf] at huf
              obtain ⟨uc, huc⟩ := rd_fn huf
              exact h1.agree hag g (hus.append huc)
            · exact ⟨r, none, h3, fun h => absurd rfl h, fun k2 h => .inl (.inr ⟨r, h1, h2, h⟩), fun _ rows2 _ _ _ _ _ _ _ k2 h => .inl (.inr ⟨r, h1, h2, h⟩)⟩
          · cases h
        | _ => exact False.elim h
      | _ => rw [hf] at h; exact False.elim h

/-- The outcome of any operation. -/
theorem aeff_cont {op : Op} {id : Nat} {s : List V} {rows : List Row} {k : KV} (h : aeff P true op id s rows k) : ∃ v rows', k v rows' ∧ ∀ k2 : KV, k2 v rows' → aeff P true op id s rows k2 := by
  by_cases hk : opKind op = 3
  · cases op <;> simp only [opKind] at hk <;> (try (exact absurd hk (by decide))) <;> simp only [aeff] at h ⊢ <;> (try (exact h.elim))
    case store t a v =>
      cases ha : oval s a with
      | ref i off =>
        rw [ha] at h
        obtain ⟨cs, vs, n, h1, h2, h3, h4, h5, h6, h7, h8⟩ := h
        exact ⟨_, _, h8, fun k2 h => ⟨cs, vs, n, h1, h2, h3, h4, h5, h6, h7, h⟩⟩
      | _ => rw [ha] at h; exact False.elim h
    case call q =>
      obtain ⟨callee, args, ts⟩ := q
      cases callee with
      | value f => simp at hk
      | invoke r m => exact h.elim
      | builtin b =>
        simp only at h ⊢
        generalize args.toList.map (oval s) = xs at h
        cases b <;> simp only at hk <;> (try (exact absurd hk (by decide)))
        case append =>
          match xs, h with
          | [sv, x], h =>
            obtain ⟨t, t', h1, h2, h3, e, sz, by', z, q1, q2, q3, q4, q5, h⟩ := h
            obtain ⟨m, new, ⟨p1, p2⟩, p3, -⟩ := tr_ashown h
            cases sv with
            | nils =>
              obtain ⟨r1, r2, r3, r4⟩ := p2
              exact ⟨_, _, r4, fun k2 h => ⟨t, t', h1, h2, h3, e, sz, by', z, q1, q2, q3, q4, q5, p3 _ ⟨p1, r1, r2, r3, h⟩⟩⟩
            | osl i off n sz' =>
              obtain ⟨r1, r2, r3, r4, cs, r5, r6, r7⟩ := p2
              exact ⟨_, _, r7, fun k2 h => ⟨t, t', h1, h2, h3, e, sz, by', z, q1, q2, q3, q4, q5, p3 _ ⟨p1, r1, r2, r3, r4, cs, r5, r6, h⟩⟩⟩
            | _ => exact False.elim p2
          | [], h => exact False.elim h
          | [_], h => exact False.elim h
          | _ :: _ :: _ :: _, h => exact False.elim h
        case copy =>
          match xs, h with
          | [d, x], h =>
            obtain ⟨t, h1, h⟩ := h
            cases d with
            | osl i off n sz =>
              obtain ⟨e, cs, q1, q2, q3, q4, q5, h⟩ := h
              obtain ⟨m, new, ⟨p1, p2, p3⟩, p4, -⟩ := tr_ashown h
              exact ⟨_, _, p3, fun k2 h => ⟨t, h1, e, cs, q1, q2, q3, q4, q5, p4 _ ⟨p1, p2, h⟩⟩⟩
            | _ => exact False.elim h
          | [], h => exact False.elim h
          | [_], h => exact False.elim h
          | _ :: _ :: _ :: _, h => exact False.elim h
        all_goals exact False.elim h
  · obtain ⟨v, e, h1, -, h2, -⟩ := aeff_read hk h
    exact ⟨v, _, h1, h2⟩

theorem rput_len {α : Type} {l : List α} {id : Nat} {x : α} (h : id < l.length) : (rput l id x).length = l.length := by
  rw [rput_length, if_neg (by omega)]

/-- Where the numbers are kept ahead, the rows stay as many. -/
theorem aeff_len {op : Op} {id : Nat} {s : List V} {rows : List Row} {k : KV} (hid : opAllocs P op = true → id < rows.length) (h : aeff P true op id s rows k) : aeff P true op id s rows fun v r => k v r ∧ r.length = rows.length := by
  by_cases hk : opKind op = 3
  · cases op <;> simp only [opKind] at hk <;> (try (exact absurd hk (by decide))) <;> simp only [aeff] at h ⊢ <;> (try (exact h.elim))
    case store t a v =>
      cases ha : oval s a with
      | ref i off =>
        rw [ha] at h
        obtain ⟨cs, vs, n, h1, h2, h3, h4, h5, h6, h7, h8⟩ := h
        exact ⟨cs, vs, n, h1, h2, h3, h4, h5, h6, h7, h8, by simp⟩
      | _ => rw [ha] at h; exact False.elim h
    case call q =>
      obtain ⟨callee, args, ts⟩ := q
      cases callee with
      | value f => simp at hk
      | invoke r m => exact h.elim
      | builtin b =>
        simp only at h ⊢
        generalize args.toList.map (oval s) = xs at h
        cases b <;> simp only at hk <;> (try (exact absurd hk (by decide)))
        case append =>
          have hlt := hid rfl
          match xs, h with
          | [sv, x], h =>
            obtain ⟨t, t', h1, h2, h3, e, sz, by', z, q1, q2, q3, q4, q5, h⟩ := h
            obtain ⟨m, new, ⟨p1, p2⟩, p3, -⟩ := tr_ashown h
            refine ⟨t, t', h1, h2, h3, e, sz, by', z, q1, q2, q3, q4, q5, p3 _ ⟨p1, ?_⟩⟩
            cases sv with
            | nils =>
              obtain ⟨r1, r2, r3, r4⟩ := p2
              exact ⟨r1, r2, r3, r4, rput_len hlt⟩
            | osl i off n sz' =>
              obtain ⟨r1, r2, r3, r4, cs, r5, r6, r7⟩ := p2
              exact ⟨r1, r2, r3, r4, cs, r5, r6, r7, by rw [rput_len (by simpa using hlt)]; simp⟩
            | _ => exact False.elim p2
          | [], h => exact False.elim h
          | [_], h => exact False.elim h
          | _ :: _ :: _ :: _, h => exact False.elim h
        case copy =>
          match xs, h with
          | [d, x], h =>
            obtain ⟨t, h1, h⟩ := h
            cases d with
            | osl i off n sz =>
              obtain ⟨e, cs, q1, q2, q3, q4, q5, h⟩ := h
              obtain ⟨m, new, ⟨p1, p2, p3⟩, p4, -⟩ := tr_ashown h
              exact ⟨t, h1, e, cs, q1, q2, q3, q4, q5, p4 _ ⟨p1, p2, p3, by simp⟩⟩
            | _ => exact False.elim h
          | [], h => exact False.elim h
          | [_], h => exact False.elim h
          | _ :: _ :: _ :: _, h => exact False.elim h
        all_goals exact False.elim h
  · obtain ⟨v, e, h1, f1, h2, -⟩ := aeff_read hk h
    refine h2 _ ⟨h1, ?_⟩
    cases e with
    | none => rfl
    | some cs => exact rput_len (hid (f1 (by simp)).2)

theorem afill_congr {place : Nat → Option (Nat × Nat)} {f g : Operand → V} : ∀ {parts : List (Nat × Operand)} {cs : List V} {k : List V → Prop}, (∀ p ∈ parts, f p.2 = g p.2) → afill place f parts cs k → afill place g parts cs k
  | [], _, _, _, h => h
  | (i, x) :: r, cs, k, hp, h => by
    obtain ⟨off, sz, vs, h1, h2, h3, h4, h5⟩ := h
    exact ⟨off, sz, vs, h1, by rw [← hp (i, x) (by simp)]; exact h2, h3, h4, afill_congr (fun p hp' => hp p (by simp [hp'])) h5⟩

/-- An operation looks at its operands alone. -/
theorem aeff_congr {op : Op} {id : Nat} {s s2 : List V} {rows : List Row} {k : KV} {draw : Bool} (ho : ∀ x ∈ op.operands, oval s x = oval s2 x) (h : aeff P draw op id s rows k) : aeff P draw op id s2 rows k := by
  have hmap : ∀ xs : List Operand, (∀ x ∈ xs, oval s x = oval s2 x) → xs.map (oval s) = xs.map (oval s2) := fun xs hx => List.map_congr_left hx
  cases op <;> simp only [aeff] at h ⊢ <;> simp only [Op.operands] at ho <;> (try (exact h))
  case move x => rw [← ho x (by simp)]; exact h
  case assign x => rw [← ho x (by simp)]; exact h
  case pick q a b => rw [← ho q (by simp), ← ho a (by simp), ← ho b (by simp)]; exact h
  case box t v => rw [← ho v (by simp)]; exact h
  case build t parts =>
    obtain ⟨z, h1, h2, h3⟩ := h
    exact ⟨z, h1, h2, afill_congr (fun p hp => ho p.2 (by simp; exact ⟨p.1, by simpa using hp⟩)) h3⟩
  case buildSlice t n parts =>
    obtain ⟨e, sz, z, h1, h2, h3, h4, h5, h6, h7⟩ := h
    exact ⟨e, sz, z, h1, h2, h3, h4, h5, h6, afill_congr (fun p hp => ho p.2 (by simp; exact ⟨p.1, by simpa using hp⟩)) h7⟩
  case load t a => rw [← ho a (by simp)]; exact h
  case store t a v => rw [← ho a (by simp), ← ho v (by simp)]; exact h
  case nilCheck x => rw [← ho x (by simp)]; exact h
  case binOp op xt x y yt => rw [← ho x (by simp), ← ho y (by simp)]; exact h
  case unOp op t x => rw [← ho x (by simp)]; exact h
  case convert a b x => rw [← ho x (by simp)]; exact h
  case makeFunc fn first cap =>
    obtain ⟨h1, h2⟩ := h
    exact ⟨h1, by rw [← hmap cap.toList fun x hx => ho x (by simp; exact .inr (by simpa using hx))]; exact h2⟩
  case makeInterface t x => rw [← ho x (by simp)]; exact h
  case makeSlice t l q => rw [← ho l (by simp), ← ho q (by simp)]; exact h
  case slice t x lo hi mx =>
    have e0 := ho x (by simp)
    have e1 : lo.map (oval s) = lo.map (oval s2) := by cases lo <;> simp_all
    have e2 : hi.map (oval s) = hi.map (oval s2) := by cases hi <;> simp_all
    have e3 : mx.map (oval s) = mx.map (oval s2) := by cases mx <;> simp_all
    rw [← e0, ← e1, ← e2, ← e3]; exact h
  case fieldAddr t x f => rw [← ho x (by simp)]; exact h
  case field t x f => rw [← ho x (by simp)]; exact h
  case indexAddr t x i => rw [← ho x (by simp), ← ho i (by simp)]; exact h
  case index t x i => rw [← ho x (by simp), ← ho i (by simp)]; exact h
  case extract t i => rw [← ho t (by simp)]; exact h
  case call q =>
    obtain ⟨callee, args, ts⟩ := q
    cases callee with
    | builtin b =>
      simp only at h ⊢
      rw [← hmap args.toList fun x hx => ho x (by simp [Call.operands]; simpa using hx)]
      exact h
    | value f =>
      simp only at h ⊢
      rw [← hmap args.toList fun x hx => ho x (by simp [Call.operands]; exact .inr (by simpa using hx)), ← ho f (by simp [Call.operands])]
      exact h
    | invoke r m => exact h.elim

end
end Go.VS
