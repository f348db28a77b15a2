/-
 VALUE SEMANTICS, 17: regions that draw their order: one walk in the order of the text serves, where what is unordered is apart.
 Conditions: none.
-/
import Derived.Test.YtnpndfmbkmbhbaaGreatDoorGb
set_option linter.all false
namespace Go.VS

def Facts (F : List (Nat × Nat × V)) (rows : List Row) : Prop := ∀ p ∈ F, ∃ cs, rows[p.1]? = some (.live cs) ∧ cs[p.2.1]? = some p.2.2
@[simp] theorem facts_nil {rows : List Row} : Facts [] rows ↔ True := iff_true_intro fun p h => by simp at h
@[simp] theorem facts_cons {p : Nat × Nat × V} {F : List (Nat × Nat × V)} {rows : List Row} : Facts (p :: F) rows ↔ (∃ cs, rows[p.1]? = some (.live cs) ∧ cs[p.2.1]? = some p.2.2) ∧ Facts F rows := by
 simp [Facts]
theorem Facts.upd {F : List (Nat × Nat × V)} {rows : List Row} {id : Nat} {e : Option (List V)} (h : Facts F rows) (hf : e ≠ none → Free rows id) : Facts F (upd rows id e) := by
 intro p hp
 obtain ⟨cs, h1, h2⟩ := h p hp
 refine ⟨cs, ?_, h2⟩
 cases e with
 | none => exact h1
 | some ds =>
  have hlt := (List.getElem?_eq_some_iff.1 h1).1
  simp only [Go.VS.upd]
  rcases hf (by simp) with hf | hf
  ·rw [rput_get (by omega), if_neg (by omega)]; exact h1
  ·rw [rput_get (Nat.le_of_lt (List.getElem?_eq_some_iff.1 hf).1), if_neg]
   ·exact h1
   ·rintro rfl; rw [hf] at h1; simp at h1

def Wf (P : Program) (F : List (Nat × Nat × V)) (s : List V) (rows : List Row) : Prop := (∃ c a w, GOk P c ∧ Conc c s rows a w) ∧ Facts F rows

def gval (ops : Array Oper) (g : Option (Nat × Bool)) (s : List V) : Option Bool :=
 match g with
 | none => some true
 | some (j, want) => match (ops[j]?).bind (·.dst) with
  | some d => (match sget s d with
   | .bool b => some (b == want)
   | _ => none)
  | none => none

theorem aguard_iff {ops : Array Oper} {g : Option (Nat × Bool)} {s : List V} {yes no : Prop} : aguard ops g s yes no ↔ (gval ops g s = some true ∧ yes) ∨ (gval ops g s = some false ∧ no) := by
 cases g with
 | none => simp [aguard, gval]
 | some q =>
  obtain ⟨j, want⟩ := q
  simp only [aguard, gval]
  cases (ops[j]?).bind (·.dst) with
  | none => simp
  | some d =>
   simp only
   cases sget s d with
   | bool b => by_cases h : b = want <;> simp [h]
   | _ => simp


def aeffP (P : Program) (op : Op) (s : List V) (rows : List Row) (k : KV) : Prop :=
 match op with
 | .load t a => (match oval s a with
  | .rptr cs => acells P t cs 0 fun v => k v rows
  | _ => False)
 | .slice t x lo hi mx => (∀ id off, oval s x ≠ .ref id off) ∧ aslice P t (oval s x) (lo.map (oval s)) (hi.map (oval s)) (mx.map (oval s)) rows k
 | .call c => (match c.callee with
  | .value f => (match oval s f with
   | .fn (.func f) cap => ∃ r, (∀ x ∈ c.args.toList.map (oval s) ++ cap, x.Pure) ∧ PCall P f (c.args.toList.map (oval s) ++ cap) r ∧ k r rows
   | _ => False)
  | _ => False)
 | _ => False

def acallF (P : Program) (f : FuncId) (args : List V) (rows : List Row) (k : KV) : Prop :=
 ∃ (m : List Nat) (args1 : List V) (rows1 : List Row) (r1 : V) (rows1' : List Row) (r : V) (rows' : List Row), m.Nodup ∧ RowsRen (m.map some) rows1 rows ∧ Rens false (m.map some) args1 args ∧ ACalls P f args1 rows1 (fun a b => a = r1 ∧ b = rows1') ∧
  Merged m rows rows1' rows' ∧ Ren true (behind m rows.length rows1'.length) r1 r ∧ k r rows'
theorem acallF_acallW {P : Program} {f : FuncId} {args : List V} {rows : List Row} {k : KV} (h : acallF P f args rows k) : acallW P f args rows k := by
 obtain ⟨m, args1, rows1, r1, rows1', r, rows', h1, h2, h3, h4, h5, h6, h7⟩ := h
 exact ⟨m, args1, rows1, _, h1, h2, h3, h4, by rintro _ _ ⟨rfl, rfl⟩; exact ⟨r, rows', h5, h6, h7⟩⟩

def aeffW (P : Program) (op : Op) (s : List V) (rows : List Row) (k : KV) : Prop :=
 match op with
 | .call c => (match c.callee with
  | .value f => (match oval s f with
   | .fn (.func f) cap => acallF P f (c.args.toList.map (oval s) ++ cap) rows k
   | _ => False)
  | _ => False)
 | _ => False

def aeffS (P : Program) (F : List (Nat × Nat × V)) (op : Op) (s : List V) (rows : List Row) (k : KV) : Prop :=
 ∃ v, (∀ rows2, Facts F rows2 → aeff P true op 0 s rows2 fun v' r' => v' = v ∧ r' = rows2) ∧ k v rows

def aeffN (P : Program) (op : Op) (s : List V) (rows : List Row) (k : KV) : Prop :=
 ∃ news v, (∀ (rows2 : List Row) (k2 : KV), rows2.length = rows.length → k2 v (rows2 ++ news) → aeffW P op s rows2 k2) ∧ k v (rows ++ news)

def aeffM (P : Program) (F : List (Nat × Nat × V)) (m : Nat) (op : Op) (id : Nat) (s : List V) (rows : List Row) (k : KV) : Prop :=
 match m with
 | 0 => aeff P true op id s rows fun v r => (opKind op = 3 → Facts F r) ∧ k v r
 | 1 => aeffP P op s rows k
 | 2 => aeffW P op s rows fun v r => Facts F r ∧ k v r
 | 4 => aeffN P op s rows k
 | _ => aeffS P F op s rows k

def kindM (m : Nat) (op : Op) : Nat :=
 match m with
 | 0 => opKind op
 | 2 => 3
 | 4 => 3
 | _ => 0

section
variable {P : Program} {F : List (Nat × Nat × V)} {op : Op} {m : Nat} {id : Nat} {s s2 : List V} {rows : List Row} {k : KV}

theorem aeffP_pure (h : aeffP P op s rows k) : ∃ v, k v rows ∧ ∀ rows2 (k2 : KV), k2 v rows2 → aeffP P op s rows2 k2 := by
 cases op <;> simp only [aeffP] at h ⊢ <;> (try (exact h.elim))
 case load t a =>
  cases ha : oval s a with
  | rptr cs =>
   rw [ha] at h
   obtain ⟨v, h1, h2⟩ := cont_acells h
   exact ⟨v, h1, fun rows2 k2 h => h2 (fun v => k2 v rows2) h⟩
  | _ => rw [ha] at h; exact h.elim
 case slice t x lo hi mx =>
  obtain ⟨hne, hm, h⟩ := h
  cases hx : oval s x with
  | str l =>
   rw [hx] at h
   obtain ⟨h1, h2⟩ := h
   obtain ⟨a, b, h3, h4⟩ := cont_bounds h2
   exact ⟨_, h3, fun rows2 k2 h => ⟨fun _ _ h => by simp at h, hm, h1, h4 (fun a b => k2 (.str ((l.drop a).take (b - a))) rows2) h⟩⟩
  | nils =>
   rw [hx] at h
   obtain ⟨h1, h2⟩ := h
   obtain ⟨a, b, h3, h4⟩ := cont_bounds h2
   exact ⟨_, h3, fun rows2 k2 h => ⟨fun _ _ h => by simp at h, hm, h1, h4 (fun a b => k2 .nils rows2) h⟩⟩
  | sl n cs =>
   rw [hx] at h
   obtain ⟨e, sz, h1, h2, h3⟩ := h
   obtain ⟨a, b, h4, h5⟩ := cont_bounds h3
   exact ⟨_, h4, fun rows2 k2 h => ⟨fun _ _ h => by simp at h, hm, e, sz, h1, h2, h5 (fun a b => k2 (.sl (b - a) ((cs.drop (a * sz)).take ((b - a) * sz))) rows2) h⟩⟩
  | osl i off n sz =>
   rw [hx] at h
   obtain ⟨e, h1, h2, h3⟩ := h
   obtain ⟨a, b, h4, h5⟩ := cont_bounds h3
   exact ⟨_, h4, fun rows2 k2 h => ⟨fun _ _ h => by simp at h, hm, e, h1, h2, h5 (fun a b => k2 (.osl i (off + a * sz) (b - a) sz) rows2) h⟩⟩
  | ref i off => exact absurd hx (hne i off)
  | _ => rw [hx] at h; exact False.elim h
 case call q =>
  obtain ⟨callee, args, ts⟩ := q
  cases callee with
  | value f =>
   simp only at h ⊢
   cases hf : oval s f with
   | fn fn cap =>
    rw [hf] at h
    cases fn with
    | func f' => obtain ⟨r, h1, h2, h3⟩ := h; exact ⟨r, h3, fun rows2 k2 h => ⟨r, h1, h2, h⟩⟩
    | _ => exact False.elim h
   | _ => rw [hf] at h; exact False.elim h
  | _ => exact False.elim h

theorem aeffP_aeff (h : aeffP P op s rows k) : aeff P true op id s rows k := by
 cases op <;> simp only [aeffP] at h <;> (try (exact h.elim)) <;> simp only [aeff]
 case load t a =>
  cases ha : oval s a with
  | rptr cs => rw [ha] at h; exact h
  | _ => rw [ha] at h; exact h.elim
 case slice t x lo hi mx => exact h.2
 case call q =>
  obtain ⟨callee, args, ts⟩ := q
  cases callee with
  | value f =>
   simp only at h ⊢
   cases hf : oval s f with
   | fn fn cap =>
    rw [hf] at h
    cases fn with
    | func f' => obtain ⟨r, h1, h2, h3⟩ := h; exact .inl (.inr ⟨r, h1, h2, h3⟩)
    | _ => exact False.elim h
   | _ => rw [hf] at h; exact False.elim h
  | _ => exact False.elim h

theorem aeffP_congr (ho : ∀ x ∈ op.operands, oval s x = oval s2 x) (h : aeffP P op s rows k) : aeffP P op s2 rows k := by
 have hmap : ∀ xs : List Operand, (∀ x ∈ xs, oval s x = oval s2 x) → xs.map (oval s) = xs.map (oval s2) := fun xs hx => List.map_congr_left hx
 cases op <;> simp only [aeffP] at h ⊢ <;> (try (exact h.elim)) <;> simp only [Op.operands] at ho
 case load t a => rw [← ho a (by simp)]; exact h
 case slice t x lo hi mx =>
  have e0 := ho x (by simp)
  have e1 : lo.map (oval s) = lo.map (oval s2) := by cases lo <;> simp_all
  have e2 : hi.map (oval s) = hi.map (oval s2) := by cases hi <;> simp_all
  have e3 : mx.map (oval s) = mx.map (oval s2) := by cases mx <;> simp_all
  rw [← e0, ← e1, ← e2, ← e3]; exact h
 case call q =>
  obtain ⟨callee, args, ts⟩ := q
  cases callee with
  | value f =>
   simp only at h ⊢
   rw [← hmap args.toList fun x hx => ho x (by simp [Call.operands]; exact .inr (by simpa using hx)), ← ho f (by simp [Call.operands])]
   exact h
  | _ => exact False.elim h

theorem aeff_mono {k2 : KV} (hk : ∀ v r, k v r → k2 v r) (h : aeff P true op id s rows k) : aeff P true op id s rows k2 := by
 obtain ⟨v, r, h1, h2⟩ := aeff_cont h
 exact h2 k2 (hk v r h1)

theorem aeffW_one (h : aeffW P op s rows k) : ∃ v rows', k v rows' ∧ rows.length ≤ rows'.length ∧ ∀ k2 : KV, k2 v rows' → aeffW P op s rows k2 := by
 unfold aeffW at h ⊢
 split at h
 ·split at h
  ·split at h
   ·obtain ⟨m, args1, rows1, r1, rows1', r, rows', h1, h2, h3, h4, h5, h6, h7⟩ := h
    exact ⟨r, rows', h7, by have := h5.len; omega, fun k2 hk => ⟨m, args1, rows1, r1, rows1', r, rows', h1, h2, h3, h4, h5, h6, hk⟩⟩
   ·exact h.elim
  ·exact h.elim
 ·exact h.elim

theorem aeffW_aeff (h : aeffW P op s rows k) : aeff P false op id s rows k := by
 unfold aeffW at h
 split at h
 ·rename_i c
  split at h
  ·rename_i f hc
   split at h
   ·rename_i f' cap hf
    simp only [aeff, hc, hf, acall]
    exact .inr ⟨trivial, acallF_acallW h⟩
   ·exact h.elim
  ·exact h.elim
 ·exact h.elim

theorem aeffW_congr (ho : ∀ x ∈ op.operands, oval s x = oval s2 x) (h : aeffW P op s rows k) : aeffW P op s2 rows k := by
 cases op <;> simp only [aeffW] at h ⊢ <;> (try (exact h.elim))
 rename_i q
 obtain ⟨callee, args, ts⟩ := q
 cases callee with
 | value f =>
  simp only at h ⊢
  have hf : oval s f = oval s2 f := ho f (by simp [Op.operands, Call.operands])
  have ha : args.toList.map (oval s) = args.toList.map (oval s2) := List.map_congr_left fun x hx => ho x (by simp [Op.operands, Call.operands]; exact .inr (by simpa using hx))
  rw [← hf, ← ha]
  exact h
 | _ => exact h.elim

theorem aeffS_pure (h : aeffS P F op s rows k) : ∃ v, k v rows ∧ ∀ rows2 (k2 : KV), k2 v rows2 → aeffS P F op s rows2 k2 := by
 obtain ⟨v, h1, h2⟩ := h
 exact ⟨v, h2, fun rows2 k2 hk => ⟨v, h1, hk⟩⟩
theorem aeffS_congr (ho : ∀ x ∈ op.operands, oval s x = oval s2 x) (h : aeffS P F op s rows k) : aeffS P F op s2 rows k := by
 obtain ⟨v, h1, h2⟩ := h
 exact ⟨v, fun rows2 hF => aeff_congr ho (h1 rows2 hF), h2⟩

theorem Facts.more {F : List (Nat × Nat × V)} {rows news : List Row} (h : Facts F rows) : Facts F (rows ++ news) := fun p hp => by
 obtain ⟨cs, h1, h2⟩ := h p hp
 exact ⟨cs, by rw [List.getElem?_append_left (List.getElem?_eq_some_iff.1 h1).1]; exact h1, h2⟩

theorem aeff_alloc (hk : opKind op = 1) (h : aeff P true op id s rows k) : ∃ v cs, Free rows id ∧ k v (rput rows id (.live cs)) ∧ ∀ (rows2 : List Row) (k2 : KV), Free rows2 id → k2 v (rput rows2 id (.live cs)) → aeff P true op id s rows2 k2 := by
 cases op <;> simp only [opKind] at hk <;> (try (exact absurd hk (by decide))) <;> simp only [aeff] at h ⊢
 case alloc e =>
  obtain ⟨z, h1, h2, h3⟩ := h
  exact ⟨_, z, h2, h3, fun rows2 k2 hf h => ⟨z, h1, hf, h⟩⟩
 case box e v =>
  obtain ⟨vs, h1, h2, h3⟩ := h
  exact ⟨_, vs, h2, h3, fun rows2 k2 hf h => ⟨vs, h1, hf, h⟩⟩
 case buildSlice t n parts =>
  obtain ⟨e, sz, z, h1, h2, h3, h4, h5, h6, h7⟩ := h
  obtain ⟨ds, h8, h9⟩ := cont_afill h7
  exact ⟨_, ds, h6, h8, fun rows2 k2 hf h => ⟨e, sz, z, h1, h2, h3, h4, h5, hf, h9 _ h⟩⟩
 case makeSlice t l q =>
  generalize oval s l = vl at h
  generalize oval s q = vq at h
  cases vl with
  | int k1 l =>
   cases vq with
   | int k2 q =>
    obtain ⟨e, sz, by', z, h1, h2, h3, h4, h5, h6, h7, h8, h9, h10, h11⟩ := h
    exact ⟨_, _, h10, h11, fun rows2 k2 hf h => ⟨e, sz, by', z, h1, h2, h3, h4, h5, h6, h7, h8, h9, hf, h⟩⟩
   | _ => exact False.elim h
  | _ => exact False.elim h
 all_goals
  split at hk <;> exact absurd hk (by decide)

theorem aeffM_i0 : aeffM P F 0 op id s rows k ↔ aeff P true op id s rows fun v r => (opKind op = 3 → Facts F r) ∧ k v r := Iff.rfl
theorem aeffM_i2 : aeffM P F 2 op id s rows k ↔ aeffW P op s rows fun v r => Facts F r ∧ k v r := Iff.rfl

theorem aeffM_facts (hF : Facts F rows) (h : aeffM P F m op id s rows k) : aeffM P F m op id s rows fun v r => k v r ∧ Facts F r := by
 match m with
 | 0 =>
  by_cases hk : opKind op = 3
  ·exact aeffM_i0.2 (aeff_mono (fun v r h => ⟨h.1, h.2, h.1 hk⟩) (aeffM_i0.1 h))
  ·obtain ⟨v, e, h1, h2, h3, -⟩ := aeff_read hk (aeffM_i0.1 h)
   exact aeffM_i0.2 (h3 _ ⟨h1.1, h1.2, hF.upd fun he => (h2 he).1⟩)
 | 1 =>
  obtain ⟨v, h1, h2⟩ := aeffP_pure (show aeffP P op s rows k from h)
  exact h2 rows (fun v r => k v r ∧ Facts F r) ⟨h1, hF⟩
 | 2 =>
  obtain ⟨v, r, h1, -, h2⟩ := aeffW_one (aeffM_i2.1 h)
  exact aeffM_i2.2 (h2 _ ⟨h1.1, h1.2, h1.1⟩)
 | 3 =>
  obtain ⟨v, h1, h2⟩ := aeffS_pure (show aeffS P F op s rows k from h)
  exact h2 rows (fun v r => k v r ∧ Facts F r) ⟨h1, hF⟩
 | 4 => 
  obtain ⟨news, v, h1, h2⟩ := (show aeffN P op s rows k from h)
  exact (show aeffN P op s rows (fun v r => k v r ∧ Facts F r) from ⟨news, v, h1, h2, hF.more⟩)
 | n + 5 =>
  obtain ⟨v, h1, h2⟩ := aeffS_pure (show aeffS P F op s rows k from h)
  exact h2 rows (fun v r => k v r ∧ Facts F r) ⟨h1, hF⟩

theorem aeffM_aeff (hF : Facts F rows) (h : aeffM P F m op id s rows k) : ∃ draw id', aeff P draw op id' s rows k := by
 match m with
 | 0 => exact ⟨true, id, aeff_mono (fun v r h => h.2) (aeffM_i0.1 h)⟩
 | 1 => exact ⟨true, id, aeffP_aeff h⟩
 | 2 =>
  obtain ⟨v, r, h1, -, h2⟩ := aeffW_one (aeffM_i2.1 h)
  exact ⟨false, id, aeffW_aeff (h2 k h1.2)⟩
 | 3 =>
  obtain ⟨v, h1, h2⟩ := (show aeffS P F op s rows k from h)
  exact ⟨true, 0, aeff_mono (fun v' r' ⟨e1, e2⟩ => by subst e1; subst e2; exact h2) (h1 rows hF)⟩
 | 4 => 
  obtain ⟨news, v, h1, h2⟩ := (show aeffN P op s rows k from h)
  exact ⟨false, id, aeffW_aeff (h1 rows k rfl h2)⟩
 | n + 5 =>
  obtain ⟨v, h1, h2⟩ := (show aeffS P F op s rows k from h)
  exact ⟨true, 0, aeff_mono (fun v' r' ⟨e1, e2⟩ => by subst e1; subst e2; exact h2) (h1 rows hF)⟩

theorem aeffM_cont (h : aeffM P F m op id s rows k) : ∃ v rows', k v rows' ∧ ∀ k2 : KV, k2 v rows' → aeffM P F m op id s rows k2 := by
 match m with
 | 0 =>
  obtain ⟨v, r, h1, h2⟩ := aeff_cont (aeffM_i0.1 h)
  exact ⟨v, r, h1.2, fun k2 hk => aeffM_i0.2 (h2 _ ⟨h1.1, hk⟩)⟩
 | 1 => obtain ⟨v, h1, h2⟩ := aeffP_pure (show aeffP P op s rows k from h); exact ⟨v, rows, h1, fun k2 h => h2 rows k2 h⟩
 | 2 =>
  obtain ⟨v, r, h1, -, h2⟩ := aeffW_one (aeffM_i2.1 h)
  exact ⟨v, r, h1.2, fun k2 hk => aeffM_i2.2 (h2 _ ⟨h1.1, hk⟩)⟩
 | 3 => obtain ⟨v, h1, h2⟩ := aeffS_pure (show aeffS P F op s rows k from h); exact ⟨v, rows, h1, fun k2 h => h2 rows k2 h⟩
 | 4 => 
  obtain ⟨news, v, h1, h2⟩ := (show aeffN P op s rows k from h)
  exact ⟨v, rows ++ news, h2, fun k2 hk => (show aeffN P op s rows k2 from ⟨news, v, h1, hk⟩)⟩
 | n + 5 => obtain ⟨v, h1, h2⟩ := aeffS_pure (show aeffS P F op s rows k from h); exact ⟨v, rows, h1, fun k2 h => h2 rows k2 h⟩

theorem aeffM_congr (ho : ∀ x ∈ op.operands, oval s x = oval s2 x) (h : aeffM P F m op id s rows k) : aeffM P F m op id s2 rows k := by
 match m with
 | 0 => exact aeff_congr (k := fun v r => (opKind op = 3 → Facts F r) ∧ k v r) ho h
 | 1 => exact aeffP_congr ho h
 | 2 => exact aeffW_congr (k := fun v r => Facts F r ∧ k v r) ho h
 | 3 => exact aeffS_congr ho h
 | 4 => 
  obtain ⟨news, v, h1, h2⟩ := (show aeffN P op s rows k from h)
  exact (show aeffN P op s2 rows k from ⟨news, v, fun rows2 k2 e hk => aeffW_congr ho (h1 rows2 k2 e hk), h2⟩)
 | n + 5 => exact aeffS_congr ho h

theorem aeffM_pure (hk : kindM m op = 0) (h : aeffM P F m op id s rows k) : ∃ v, k v rows ∧ ∀ id2 rows2 (k2 : KV), k2 v rows2 → aeffM P F m op id2 s rows2 k2 := by
 match m with
 | 0 =>
  have hk0 : opKind op = 0 := hk
  obtain ⟨v, h1, h2⟩ := aeff_pure hk0 (aeffM_i0.1 h)
  exact ⟨v, h1.2, fun id2 rows2 k2 hk2 => h2 id2 rows2 (fun v r => (opKind op = 3 → Facts F r) ∧ k2 v r) ⟨fun h3 => by omega, hk2⟩⟩
 | 1 => obtain ⟨v, h1, h2⟩ := aeffP_pure (show aeffP P op s rows k from h); exact ⟨v, h1, fun _ rows2 k2 h => h2 rows2 k2 h⟩
 | 2 => exact absurd (show (3 : Nat) = 0 from hk) (by omega)
 | 3 => obtain ⟨v, h1, h2⟩ := aeffS_pure (show aeffS P F op s rows k from h); exact ⟨v, h1, fun _ rows2 k2 h => h2 rows2 k2 h⟩
 | 4 => exact absurd (show (3 : Nat) = 0 from hk) (by omega)
 | n + 5 => obtain ⟨v, h1, h2⟩ := aeffS_pure (show aeffS P F op s rows k from h); exact ⟨v, h1, fun _ rows2 k2 h => h2 rows2 k2 h⟩

theorem aeffM_read (hk : kindM m op ≠ 3) (h : aeffM P F m op id s rows k) :
  ∃ v e, k v (upd rows id e) ∧ (e ≠ none → Free rows id ∧ opAllocs P op = true) ∧ (∀ k2 : KV, k2 v (upd rows id e) → aeffM P F m op id s rows k2) ∧
   (∀ (c : Ctx) (rows2 : List Row) (w : World) (ro : Nat → Prop) (ρ : Rho), Agree rows rows2 → (e ≠ none → Free rows2 id) → Good c rows2 w ro ρ → (∀ x ∈ op.operands, ∃ u, Rd w ro ρ u (oval s x)) → ∀ k2 : KV, k2 v (upd rows2 id e) → aeffM P F m op id s rows2 k2) := by
 match m with
 | 0 =>
  have hk0 : opKind op ≠ 3 := hk
  obtain ⟨v, e, h1, h2, h3, h4⟩ := aeff_read hk0 (aeffM_i0.1 h)
  exact ⟨v, e, h1.2, h2, fun k2 hk2 => aeffM_i0.2 (h3 _ ⟨fun h => absurd h hk0, hk2⟩), fun c rows2 w ro ρ q1 q2 q3 q4 k2 hk2 => aeffM_i0.2 (h4 c rows2 w ro ρ q1 q2 q3 q4 _ ⟨fun h => absurd h hk0, hk2⟩)⟩
 | 1 =>
  obtain ⟨v, h1, h2⟩ := aeffP_pure (show aeffP P op s rows k from h)
  exact ⟨v, none, h1, fun h => absurd rfl h, fun k2 h => h2 rows k2 h, fun _ rows2 _ _ _ _ _ _ _ k2 h => h2 rows2 k2 h⟩
 | 2 => exact absurd rfl hk
 | 3 =>
  obtain ⟨v, h1, h2⟩ := aeffS_pure (show aeffS P F op s rows k from h)
  exact ⟨v, none, h1, fun h => absurd rfl h, fun k2 h => h2 rows k2 h, fun _ rows2 _ _ _ _ _ _ _ k2 h => h2 rows2 k2 h⟩
 | 4 => exact absurd rfl hk
 | n + 5 =>
  obtain ⟨v, h1, h2⟩ := aeffS_pure (show aeffS P F op s rows k from h)
  exact ⟨v, none, h1, fun h => absurd rfl h, fun k2 h => h2 rows k2 h, fun _ rows2 _ _ _ _ _ _ _ k2 h => h2 rows2 k2 h⟩

theorem aeffM_len (hid : opAllocs P op = true → id < rows.length) (h : aeffM P F m op id s rows k) : aeffM P F m op id s rows fun v r => k v r ∧ rows.length ≤ r.length := by
 match m with
 | 0 => exact aeffM_i0.2 (aeff_mono (fun v r h => ⟨h.1.1, h.1.2, Nat.le_of_eq h.2.symm⟩) (aeff_len hid (aeffM_i0.1 h)))
 | 1 => obtain ⟨v, h1, h2⟩ := aeffP_pure (show aeffP P op s rows k from h); exact h2 rows (fun v r => k v r ∧ rows.length ≤ r.length) ⟨h1, Nat.le_refl _⟩
 | 2 =>
  obtain ⟨v, r, h1, h2, h3⟩ := aeffW_one (aeffM_i2.1 h)
  exact aeffM_i2.2 (h3 _ ⟨h1.1, h1.2, h2⟩)
 | 3 => obtain ⟨v, h1, h2⟩ := aeffS_pure (show aeffS P F op s rows k from h); exact h2 rows (fun v r => k v r ∧ rows.length ≤ r.length) ⟨h1, Nat.le_refl _⟩
 | 4 => 
  obtain ⟨news, v, h1, h2⟩ := (show aeffN P op s rows k from h)
  exact (show aeffN P op s rows (fun v r => k v r ∧ rows.length ≤ r.length) from ⟨news, v, h1, h2, by simp⟩)
 | n + 5 => obtain ⟨v, h1, h2⟩ := aeffS_pure (show aeffS P F op s rows k from h); exact h2 rows (fun v r => k v r ∧ rows.length ≤ r.length) ⟨h1, Nat.le_refl _⟩

end

def aop1 (P : Program) (F : List (Nat × Nat × V)) (mk : Nat → Nat) (ops : Array Oper) (idf : Nat → Nat) (i : Nat) (K : KS) : KS := fun s rows =>
 match ops[i]? with
 | none => K s rows
 | some o => aguard ops o.guard s (aeffM P F (mk i) o.op (idf i) s rows fun v r => K (sput s o.dst v) r) (K (sput s o.dst .junk) rows)

def aruns (P : Program) (F : List (Nat × Nat × V)) (mk : Nat → Nat) (ops : Array Oper) (idf : Nat → Nat) : List Nat → KS → KS
 | [], K => K
 | i :: is, K => aop1 P F mk ops idf i (aruns P F mk ops idf is K)

section
variable {P : Program} {F : List (Nat × Nat × V)} {mk : Nat → Nat} {ops : Array Oper} {idf : Nat → Nat} {s s2 : List V} {rows rows2 : List Row} {K : KS}

theorem sput_comm {x y : Option Tmp} {v u : V} (h : ∀ d, x = some d → y ≠ some d) : sput (sput s x v) y u = sput (sput s y u) x v := by
 cases x with
 | none => rfl
 | some d =>
  cases y with
  | none => rfl
  | some e =>
   have hne : d ≠ e := fun he => h d rfl (he ▸ rfl)
   simp only [sput, sset_eq]
   exact List.set_comm _ _ hne

theorem sget_sput {d t : Nat} {v : V} (h : d ≠ t) : sget (sset s d v) t = sget s t := by
 rw [sget_eq, sget_eq, sset_eq, List.getElem?_set_ne h]

theorem oval_sput {dst : Option Tmp} {v : V} {x : Operand} (h : ∀ d, dst = some d → x ≠ .tmp d) : oval (sput s dst v) x = oval s x := by
 cases dst with
 | none => rfl
 | some d =>
  cases x with
  | tmp t => exact sget_sput fun e => h d rfl (e ▸ rfl)
  | _ => rfl

theorem looks_operand {o : Oper} {x : Operand} {d : Nat} (hx : x ∈ o.op.operands) (h : x = .tmp d) : d ∈ o.looksAt ops := by
 subst h
 exact List.mem_append_left _ (List.mem_filterMap.2 ⟨.tmp d, by simpa using hx, rfl⟩)

theorem gval_sput {o : Oper} {dst : Option Tmp} {v : V} (h : ∀ d, dst = some d → d ∉ o.looksAt ops) : gval ops o.guard (sput s dst v) = gval ops o.guard s := by
 cases dst with
 | none => rfl
 | some d =>
  unfold gval
  cases hg : o.guard with
  | none => rfl
  | some gw =>
   obtain ⟨j, want⟩ := gw
   simp only
   cases hd : (ops[j]?).bind (·.dst) with
   | none => rfl
   | some t =>
    have hne : d ≠ t := fun e => h d rfl (by subst e; simp [Oper.looksAt, hg, hd])
    simp only [sput, sget_sput hne]

def SameLook (ops : Array Oper) (o : Oper) (s s2 : List V) : Prop := gval ops o.guard s = gval ops o.guard s2 ∧ ∀ x ∈ o.op.operands, oval s x = oval s2 x

theorem sameLook_sput {o : Oper} {dst : Option Tmp} {v : V} (h : ∀ d, dst = some d → d ∉ o.looksAt ops) : SameLook ops o (sput s dst v) s :=
 ⟨gval_sput h, fun x hx => oval_sput fun d hd he => h d hd (looks_operand hx he)⟩

theorem SameLook.symm {o : Oper} (h : SameLook ops o s s2) : SameLook ops o s2 s := ⟨h.1.symm, fun x hx => (h.2 x hx).symm⟩

theorem aop1_some {i : Nat} {o : Oper} (ho : ops[i]? = some o) : aop1 P F mk ops idf i K s rows ↔
  (gval ops o.guard s = some true ∧ aeffM P F (mk i) o.op (idf i) s rows fun v r => K (sput s o.dst v) r) ∨ (gval ops o.guard s = some false ∧ K (sput s o.dst .junk) rows) := by
 unfold aop1
 simp only [ho]
 exact aguard_iff

theorem Wf.skip {o : Oper} (h : Wf P F s rows) : Wf P F (sput s o.dst .junk) rows := by
 obtain ⟨⟨c, a, w, go, ro, ρ, g, hs⟩, hF⟩ := h
 exact ⟨⟨c, a.put o.dst undef, w, go, ro, ρ, g, hs.put .junk o.dst⟩, hF⟩

theorem Wf.step {o : Oper} {m : Nat} {id : Nat} {v : V} {rows' : List Row} (h : Wf P F s rows) (hr : aeffM P F m o.op id s rows fun a b => a = v ∧ b = rows') : Wf P F (sput s o.dst v) rows' := by
 obtain ⟨⟨c, a, w, go, ro, ρ, g, hs⟩, hF⟩ := h
 obtain ⟨draw, id', hae⟩ := aeffM_aeff hF (aeffM_facts hF hr)
 have hd := aeff_sound (o := o) go hs g hae
 have use : ∀ u w', OpOk c (fun a b => (a = v ∧ b = rows') ∧ Facts F b) w ro ρ u w' → Wf P F (sput s o.dst v) rows' := by
  rintro u w' ⟨r, rs, ro', ρ', ⟨⟨rfl, rfl⟩, hF'⟩, h2, h3, h4⟩
  exact ⟨⟨c, a.put o.dst u, w', go, ro', ρ', h2, (hs.ext h4).put h3 o.dst⟩, hF'⟩
 generalize (execOp a.eval o).run P w = res at hd
 cases res with
 | halt x w' => exact hd.elim
 | ok n w' =>
  cases n <;> try exact hd.elim
  case value u => exact use u w' hd
  case skip => exact use undef w' hd
  case enter f args =>
   obtain ⟨e, w'', fr, ⟨u, -, hok⟩, -⟩ := hd []
   exact use u w'' hok

theorem aop1_cont {i : Nat} {o : Oper} (ho : ops[i]? = some o) (hw : Wf P F s rows) (h : aop1 P F mk ops idf i K s rows) :
  ∃ v rows', K (sput s o.dst v) rows' ∧ Wf P F (sput s o.dst v) rows' ∧ ∀ (s2 : List V) (K2 : KS), SameLook ops o s s2 → K2 (sput s2 o.dst v) rows' → aop1 P F mk ops idf i K2 s2 rows := by
 rcases (aop1_some ho).1 h with ⟨hg, h⟩ | ⟨hg, h⟩
 ·obtain ⟨v, rows', h1, h2⟩ := aeffM_cont h
  refine ⟨v, rows', h1, hw.step (h2 (fun a b => a = v ∧ b = rows') ⟨rfl, rfl⟩), fun s2 K2 hl hk => (aop1_some ho).2 (.inl ⟨hl.1 ▸ hg, ?_⟩)⟩
  exact aeffM_congr hl.2 (h2 (fun v r => K2 (sput s2 o.dst v) r) hk)
 ·exact ⟨.junk, rows, h, hw.skip, fun s2 K2 hl hk => (aop1_some ho).2 (.inr ⟨hl.1 ▸ hg, hk⟩)⟩

theorem aop1_mono {i : Nat} {K2 : KS} (hk : ∀ s rows, Wf P F s rows → K s rows → K2 s rows) (hw : Wf P F s rows) (h : aop1 P F mk ops idf i K s rows) : aop1 P F mk ops idf i K2 s rows := by
 cases ho : ops[i]? with
 | none =>
  unfold aop1 at h ⊢
  simp only [ho] at h ⊢
  exact hk s rows hw h
 | some o =>
  obtain ⟨v, rows', h1, h2, h3⟩ := aop1_cont ho hw h
  exact h3 s K2 ⟨rfl, fun _ _ => rfl⟩ (hk _ _ h2 h1)

theorem aop1_read {i : Nat} {o : Oper} (ho : ops[i]? = some o) (hk : kindM (mk i) o.op ≠ 3) (h : aop1 P F mk ops idf i K s rows) :
  ∃ v e, K (sput s o.dst v) (upd rows (idf i) e) ∧ (e ≠ none → Free rows (idf i) ∧ opAllocs P o.op = true) ∧
   ∀ (s2 : List V) (rows2 : List Row) (K2 : KS), SameLook ops o s s2 → Agree rows rows2 → (e ≠ none → Free rows2 (idf i)) → Wf P F s2 rows2 → K2 (sput s2 o.dst v) (upd rows2 (idf i) e) → aop1 P F mk ops idf i K2 s2 rows2 := by
 rcases (aop1_some ho).1 h with ⟨hg, h⟩ | ⟨hg, h⟩
 ·obtain ⟨v, e, h1, h2, -, h3⟩ := aeffM_read hk h
  refine ⟨v, e, h1, h2, fun s2 rows2 K2 hl hag hfr hwf hkk => (aop1_some ho).2 (.inl ⟨hl.1 ▸ hg, ?_⟩)⟩
  obtain ⟨⟨c, a, w, go, ro, ρ, g, hs⟩, -⟩ := hwf
  exact aeffM_congr hl.2 (h3 c rows2 w ro ρ hag hfr g (fun x hx => ⟨_, by rw [hl.2 x hx]; exact hs.eval x⟩) (fun v r => K2 (sput s2 o.dst v) r) hkk)
 ·exact ⟨.junk, none, h, fun h => absurd rfl h, fun s2 rows2 K2 hl _ _ _ hkk => (aop1_some ho).2 (.inr ⟨hl.1 ▸ hg, hkk⟩)⟩

theorem aop1_pure {i : Nat} {o : Oper} (ho : ops[i]? = some o) (hk : kindM (mk i) o.op = 0) (h : aop1 P F mk ops idf i K s rows) :
  ∃ v, K (sput s o.dst v) rows ∧ ∀ (s2 : List V) (rows2 : List Row) (K2 : KS), SameLook ops o s s2 → K2 (sput s2 o.dst v) rows2 → aop1 P F mk ops idf i K2 s2 rows2 := by
 rcases (aop1_some ho).1 h with ⟨hg, h⟩ | ⟨hg, h⟩
 ·obtain ⟨v, h1, h2⟩ := aeffM_pure hk h
  exact ⟨v, h1, fun s2 rows2 K2 hl hkk => (aop1_some ho).2 (.inl ⟨hl.1 ▸ hg, aeffM_congr hl.2 (h2 (idf i) rows2 (fun v r => K2 (sput s2 o.dst v) r) hkk)⟩)⟩
 ·exact ⟨.junk, h, fun s2 rows2 K2 hl hkk => (aop1_some ho).2 (.inr ⟨hl.1 ▸ hg, hkk⟩)⟩

theorem agree_upd {id : Nat} {e : Option (List V)} (hf : e ≠ none → rows[id]? = some .resv) : Agree rows (upd rows id e) := by
 intro j cs hj
 cases e with
 | none => exact .inl hj
 | some ds =>
  have hr := hf (by simp)
  left
  simp only [upd]
  rw [rput_get (Nat.le_of_lt (List.getElem?_eq_some_iff.1 hr).1), if_neg]
  ·exact hj
  ·rintro rfl; rw [hr] at hj; simp at hj

theorem agree_upd' {id : Nat} {e : Option (List V)} (hf : e ≠ none → rows[id]? = some .resv) : Agree (upd rows id e) rows := by
 intro j cs hj
 cases e with
 | none => exact .inl hj
 | some ds =>
  have hr := hf (by simp)
  simp only [upd] at hj
  rw [rput_get (Nat.le_of_lt (List.getElem?_eq_some_iff.1 hr).1)] at hj
  split at hj
  ·rename_i e; subst e; exact .inr hr
  ·exact .inl hj

theorem rput_set {α : Type} {l : List α} {id : Nat} {x : α} (h : id < l.length) : rput l id x = l.set id x := if_neg (by omega)

theorem aop1_swap {i j : Nat} {oi oj : Oper} (hi : ops[i]? = some oi) (hj : ops[j]? = some oj) (hap : oi.apart ops oj = true) (hk : kindM (mk i) oi.op = 3 → kindM (mk j) oj.op = 0 ∨ mk i = 4 ∧ mk j = 0 ∧ opKind oj.op = 1) (hk' : kindM (mk j) oj.op = 3 → kindM (mk i) oi.op = 0)
  (hid : ∀ (k : Nat) o, ops[k]? = some o → opAllocs P o.op = true → idf k < rows.length) (hw : Wf P F s rows) (h : aop1 P F mk ops idf i (aop1 P F mk ops idf j K) s rows) : aop1 P F mk ops idf j (aop1 P F mk ops idf i K) s rows := by
 obtain ⟨a1, a2, a3⟩ := Oper.apart_spec hap
 by_cases hi3 : kindM (mk i) oi.op = 3
 ·
  rcases hk hi3 with hk0 | ⟨m4, m0, k1⟩
  rotate_left 1
  ·rcases (aop1_some hi).1 h with ⟨hg, h⟩ | ⟨hg, h⟩
   ·rw [m4] at h
    obtain ⟨news, vi, h1, h2⟩ := (show aeffN P oi.op s rows _ from h)
    rcases (aop1_some hj).1 h2 with ⟨hgj, h2⟩ | ⟨hgj, h2⟩
    ·rw [m0] at h2
     obtain ⟨vj, cs, hf, h3, h4⟩ := aeff_alloc k1 (aeffM_i0.1 h2)
     have hlt : idf j < rows.length := hid j oj hj (by cases hop : oj.op <;> rw [hop] at k1 <;> simp [opKind] at k1 <;> (try rfl) <;> (split at k1 <;> simp at k1))
     have hres : rows[idf j]? = some .resv := by
      rcases hf with hf | hf
      ·simp at hf; omega
      ·rwa [List.getElem?_append_left hlt] at hf
     have hs1 := sameLook_sput (ops := ops) (s := s) (v := vi) a1
     have hs3 := sameLook_sput (ops := ops) (s := s) (v := vj) a3
     refine (aop1_some hj).2 (.inl ⟨by rw [← hs1.1]; exact hgj, ?_⟩)
     rw [m0]
     refine aeffM_i0.2 (aeff_congr hs1.2 (h4 rows _ (.inr hres) ⟨fun e => by omega, ?_⟩))
     refine (aop1_some hi).2 (.inl ⟨by rw [hs3.1]; exact hg, ?_⟩)
     rw [m4]
     refine (show aeffN P oi.op _ _ _ from ⟨news, vi, fun rows2 k2 e hk => aeffW_congr hs3.symm.2 (h1 rows2 k2 (by rw [e, rput_length, if_neg (by omega)]) hk), ?_⟩)
     dsimp only
     rw [sput_comm (fun d hd he => a2 d he hd)]
     have e : rput (rows ++ news) (idf j) (.live cs) = rput rows (idf j) (.live cs) ++ news := by
      rw [rput_set hlt, rput_set (by simp; omega), List.set_append_left _ _ hlt]
     rw [← e]
     exact h3.2
    ·have hs1 := sameLook_sput (ops := ops) (s := s) (v := vi) a1
     have hs3 := sameLook_sput (ops := ops) (s := s) (v := V.junk) a3
     refine (aop1_some hj).2 (.inr ⟨by rw [← hs1.1]; exact hgj, (aop1_some hi).2 (.inl ⟨by rw [hs3.1]; exact hg, ?_⟩)⟩)
     rw [m4]
     refine (show aeffN P oi.op _ _ _ from ⟨news, vi, fun rows2 k2 e hk => aeffW_congr hs3.symm.2 (h1 rows2 k2 e hk), ?_⟩)
     dsimp only
     rw [sput_comm (fun d hd he => a2 d he hd)]
     exact h2
   ·rcases (aop1_some hj).1 h with ⟨hgj, h2⟩ | ⟨hgj, h2⟩
    ·rw [m0] at h2
     obtain ⟨vj, cs, hf, h3, h4⟩ := aeff_alloc k1 (aeffM_i0.1 h2)
     have hs1 := sameLook_sput (ops := ops) (s := s) (v := V.junk) a1
     have hs3 := sameLook_sput (ops := ops) (s := s) (v := vj) a3
     refine (aop1_some hj).2 (.inl ⟨by rw [← hs1.1]; exact hgj, ?_⟩)
     rw [m0]
     refine aeffM_i0.2 (aeff_congr hs1.2 (h4 rows _ hf ⟨fun e => by omega, ?_⟩))
     refine (aop1_some hi).2 (.inr ⟨by rw [hs3.1]; exact hg, ?_⟩)
     rw [sput_comm (fun d hd he => a2 d he hd)]
     exact h3.2
    ·have hs1 := sameLook_sput (ops := ops) (s := s) (v := V.junk) a1
     have hs3 := sameLook_sput (ops := ops) (s := s) (v := V.junk) a3
     refine (aop1_some hj).2 (.inr ⟨by rw [← hs1.1]; exact hgj, (aop1_some hi).2 (.inr ⟨by rw [hs3.1]; exact hg, ?_⟩)⟩)
     rw [sput_comm (fun d hd he => a2 d he hd)]
     exact h2
  obtain ⟨vi, ri, h1, hwi, h2⟩ := aop1_cont hi hw h
  obtain ⟨vj, h3, h4⟩ := aop1_pure hj hk0 h1
  refine h4 s rows _ (sameLook_sput a1) (h2 _ _ (sameLook_sput a3).symm ?_)
  rw [sput_comm (fun d hd he => a2 d he hd)]
  exact h3
 by_cases hj3 : kindM (mk j) oj.op = 3
 ·obtain ⟨vi, h1, h2⟩ := aop1_pure hi (hk' hj3) h
  have hwi : Wf P F (sput s oi.dst vi) rows := by
   obtain ⟨v', r', q1, q2, -⟩ := aop1_cont (K := fun s' r' => s' = sput s oi.dst vi ∧ r' = rows) hi hw (h2 s rows _ ⟨rfl, fun _ _ => rfl⟩ ⟨rfl, rfl⟩)
   rw [q1.1, q1.2] at q2
   exact q2
  obtain ⟨vj, rj, h3, -, h4⟩ := aop1_cont hj hwi h1
  refine h4 s _ (sameLook_sput a1) (h2 _ _ _ (sameLook_sput a3).symm ?_)
  rw [sput_comm (fun d hd he => a2 d he hd)]
  exact h3
 ·obtain ⟨vi, ei, h1, f1, h2⟩ := aop1_read hi hi3 h
  obtain ⟨vj, ej, h3, f3, h4⟩ := aop1_read hj hj3 h1
  have hri : ei ≠ none → rows[idf i]? = some .resv := fun he => by
   obtain ⟨q1, q2⟩ := f1 he
   have := hid i oi hi q2
   rcases q1 with q1 | q1
   ·omega
   ·exact q1
  have hlen : (upd rows (idf i) ei).length = rows.length := by
   cases ei with
   | none => rfl
   | some cs =>
    have := hri (by simp)
    have := (List.getElem?_eq_some_iff.1 this).1
    simp only [upd, rput_length]
    rw [if_neg (by omega)]
  have hne : ei ≠ none → ej ≠ none → idf i ≠ idf j := by
   intro hei hej e
   cases ei with
   | none => exact hei rfl
   | some cs =>
    obtain ⟨q1, q2⟩ := f3 hej
    have := hid j oj hj q2
    rw [← e] at q1 this
    have hr := hri (by simp)
    rcases q1 with q1 | q1
    ·rw [hlen] at q1; omega
    ·simp only [upd] at q1
     rw [rput_get (Nat.le_of_lt this), if_pos rfl] at q1
     simp at q1
  have hrj : ej ≠ none → rows[idf j]? = some .resv := fun he => by
   obtain ⟨q1, q2⟩ := f3 he
   have hlt := hid j oj hj q2
   rcases q1 with q1 | q1
   ·rw [hlen] at q1; omega
   ·cases ei with
    | none => exact q1
    | some cs =>
     simp only [upd] at q1
     rw [rput_get (Nat.le_of_lt (List.getElem?_eq_some_iff.1 (hri (by simp))).1), if_neg (fun e => hne (by simp) he e.symm)] at q1
     exact q1
  have hback : ∀ K2 : KS, K2 (sput s oj.dst vj) (upd rows (idf j) ej) → aop1 P F mk ops idf j K2 s rows := fun K2 hk2 =>
   h4 s rows K2 (sameLook_sput a1) (agree_upd' hri) (fun he => .inr (hrj he)) hw hk2
  have hwj : Wf P F (sput s oj.dst vj) (upd rows (idf j) ej) := by
   obtain ⟨v', r', q1, q2, -⟩ := aop1_cont (K := fun s' r' => s' = sput s oj.dst vj ∧ r' = upd rows (idf j) ej) hj hw (hback _ ⟨rfl, rfl⟩)
   rw [q1.1, q1.2] at q2
   exact q2
  refine hback _ (h2 _ _ _ (sameLook_sput a3).symm (agree_upd hrj) (fun he => ?_) hwj ?_)
  ·right
   cases ej with
   | none => exact hri he
   | some cs =>
    simp only [upd]
    rw [rput_get (Nat.le_of_lt (List.getElem?_eq_some_iff.1 (hrj (by simp))).1), if_neg (hne he (by simp))]
    exact hri he
  ·rw [sput_comm (fun d hd he => a2 d he hd)]
   have hc : upd (upd rows (idf i) ei) (idf j) ej = upd (upd rows (idf j) ej) (idf i) ei := by
    cases ei with
    | none => rfl
    | some ci =>
     cases ej with
     | none => rfl
     | some cj =>
      have q1 := (List.getElem?_eq_some_iff.1 (hri (by simp))).1
      have q2 := (List.getElem?_eq_some_iff.1 (hrj (by simp))).1
      simp only [upd]
      rw [rput_set q1, rput_set q2, rput_set (by simpa using q2), rput_set (by simpa using q1)]
      exact List.set_comm _ _ (hne (by simp) (by simp))
   rw [← hc]
   exact h3


def compat (mk : Nat → Nat) (ops : Array Oper) (i j : Nat) : Bool :=
 match ops[i]?, ops[j]? with
 | some oi, some oj => oi.apart ops oj && (kindM (mk i) oi.op != 3 || kindM (mk j) oj.op == 0 || (mk i == 4 && mk j == 0 && opKind oj.op == 1)) && (kindM (mk j) oj.op != 3 || kindM (mk i) oi.op == 0)
 | _, _ => false

def clos (ops : Array Oper) : Array Nat := Region.before ops

def closOk (ops : Array Oper) (bs : Array Nat) : Bool :=
 (List.range ops.size).all fun i => match ops[i]? with
  | some o => (o.after.all fun e => !Region.binds .any e || e.on < i) &&
    (List.range i).all fun j => !(bs.getD i 0).testBit j || o.after.any fun e => Region.binds .any e && (e.on == j || (decide (j < e.on) && (bs.getD e.on 0).testBit j))
  | none => true

def indepBy (mk : Nat → Nat) (ops : Array Oper) (bs : Array Nat) : Bool :=
 closOk ops bs && (List.range ops.size).all fun i => (List.range i).all fun j => (bs.getD i 0).testBit j || compat mk ops j i

def indep (mk : Nat → Nat) (ops : Array Oper) : Bool := indepBy mk ops (clos ops)

theorem compat_spec {i j : Nat} (h : compat mk ops i j = true) : ∃ oi oj, ops[i]? = some oi ∧ ops[j]? = some oj ∧ oi.apart ops oj = true ∧ (kindM (mk i) oi.op = 3 → kindM (mk j) oj.op = 0 ∨ mk i = 4 ∧ mk j = 0 ∧ opKind oj.op = 1) ∧ (kindM (mk j) oj.op = 3 → kindM (mk i) oi.op = 0) := by
 unfold compat at h
 split at h
 ·rename_i oi oj h1 h2
  simp only [Bool.and_eq_true, Bool.or_eq_true, bne_iff_ne, beq_iff_eq] at h
  refine ⟨oi, oj, h1, h2, h.1.1, fun e => ?_, fun e => h.2.resolve_left (fun h => h e)⟩
  rcases h.1.2 with (h | h) | h
  ·exact absurd e h
  ·exact .inl h
  ·exact .inr ⟨h.1.1, h.1.2, h.2⟩
 ·simp at h

theorem aop1_len {i : Nat} (hid : ∀ (k : Nat) o, ops[k]? = some o → opAllocs P o.op = true → idf k < rows.length) (h : aop1 P F mk ops idf i K s rows) : aop1 P F mk ops idf i (fun s' r' => K s' r' ∧ rows.length ≤ r'.length) s rows := by
 cases ho : ops[i]? with
 | none =>
  unfold aop1 at h ⊢
  simp only [ho] at h ⊢
  exact ⟨h, Nat.le_refl _⟩
 | some o =>
  rcases (aop1_some ho).1 h with ⟨hg, h⟩ | ⟨hg, h⟩
  ·exact (aop1_some ho).2 (.inl ⟨hg, aeffM_len (hid i o ho) h⟩)
  ·exact (aop1_some ho).2 (.inr ⟨hg, h, Nat.le_refl _⟩)

theorem aruns_front {i n : Nat} {l2 : List Nat} (hid : ∀ (k : Nat) o, ops[k]? = some o → opAllocs P o.op = true → idf k < n) :
  ∀ (l1 : List Nat) (s : List V) (rows : List Row), n ≤ rows.length → (∀ j ∈ l1, compat mk ops j i = true) → Wf P F s rows → aruns P F mk ops idf (l1 ++ i :: l2) K s rows → aop1 P F mk ops idf i (aruns P F mk ops idf (l1 ++ l2) K) s rows
 | [], s, rows, _, _, _, h => h
 | j :: l1, s, rows, hl, hc, hw, h => by
  obtain ⟨oj, oi, hj, hi, q1, q2, q3⟩ := compat_spec (hc j (by simp))
  have hid' : ∀ (k : Nat) o, ops[k]? = some o → opAllocs P o.op = true → idf k < rows.length := fun k o h1 h2 => Nat.lt_of_lt_of_le (hid k o h1 h2) hl
  refine aop1_swap hj hi q1 q2 q3 hid' hw (aop1_mono (fun s' r' hw' ⟨h1, h2⟩ => ?_) hw (aop1_len hid' h))
  exact aruns_front hid l1 s' r' (Nat.le_trans hl h2) (fun k hk => hc k (by simp [hk])) hw' h1

structure ClosSpec (ops : Array Oper) (bs : Array Nat) : Prop where
 lt : ∀ (i : Nat) o e, ops[i]? = some o → e ∈ o.after → Region.binds .any e = true → e.on < i
 step : ∀ (i : Nat) o j, ops[i]? = some o → j < i → (bs.getD i 0).testBit j = true → ∃ e ∈ o.after, Region.binds .any e = true ∧ (e.on = j ∨ j < e.on ∧ (bs.getD e.on 0).testBit j = true)

theorem closSpec_of {bs : Array Nat} (h : closOk ops bs = true) : ClosSpec ops bs := by
 simp only [closOk, List.all_eq_true, List.mem_range] at h
 have at' : ∀ (i : Nat) o, ops[i]? = some o → ((o.after.all fun e => !Region.binds .any e || e.on < i) && (List.range i).all fun j => !(bs.getD i 0).testBit j || o.after.any fun e => Region.binds .any e && (e.on == j || (decide (j < e.on) && (bs.getD e.on 0).testBit j))) = true := by
  intro i o ho
  have := h i (Array.getElem?_eq_some_iff.1 ho).1
  rw [ho] at this
  exact this
 refine ⟨fun i o e ho he hb => ?_, fun i o j ho hj hb => ?_⟩
 ·have := at' i o ho
  simp only [Bool.and_eq_true, Array.all_eq_true_iff_forall_mem, Bool.or_eq_true, Bool.not_eq_true', decide_eq_true_eq] at this
  exact (this.1 e he).resolve_left (fun h => by rw [hb] at h; cases h)
 ·have := at' i o ho
  simp only [Bool.and_eq_true, List.all_eq_true, List.mem_range, Bool.or_eq_true, Bool.not_eq_true'] at this
  have h2 := (this.2 j hj).resolve_left (fun h => by rw [hb] at h; cases h)
  obtain ⟨e, he, h3⟩ := Array.any_eq_true'.1 h2
  simp only [Bool.and_eq_true, Bool.or_eq_true, beq_iff_eq, decide_eq_true_eq] at h3
  exact ⟨e, he, h3.1, h3.2⟩

def Closed (ops : Array Oper) (listed : Array Bool) : Prop := ∀ (i : Nat) o, ops[i]? = some o → listed.getD i true = true → ∀ e ∈ o.after, Region.binds .any e = true → listed.getD e.on false = true

theorem before_listed {bs : Array Nat} {listed : Array Bool} (hs : listed.size = ops.size) (hc : ClosSpec ops bs) (hcl : Closed ops listed) : ∀ (i : Nat) o, ops[i]? = some o → (∀ e ∈ o.after, Region.binds .any e = true → listed.getD e.on false = true) →
  ∀ j, j < i → (bs.getD i 0).testBit j = true → listed.getD j false = true := by
 intro i
 induction i using Nat.strongRecOn with
 | _ i ih =>
  intro o ho hp j hj hb
  obtain ⟨e, he, h1, h2⟩ := hc.step i o j ho hj hb
  have hlt := hc.lt i o e ho he h1
  have hle := hp e he h1
  rcases h2 with rfl | ⟨hje, h2⟩
  ·exact hle
  ·have hsz : i < ops.size := (Array.getElem?_eq_some_iff.1 ho).1
   have hlt' : e.on < ops.size := by omega
   have hle' : listed.getD e.on true = true := by
    rw [Array.getD_eq_getD_getElem?] at hle ⊢
    have : e.on < listed.size := by omega
    rw [Array.getElem?_eq_getElem this] at hle ⊢
    exact hle
   have ho' : ops[e.on]? = some (ops[e.on]'hlt') := Array.getElem?_eq_getElem hlt'
   exact ih e.on hlt _ ho' (hcl e.on _ ho' hle') j hje h2

theorem getD_size {listed : Array Bool} {j : Nat} (h : j < listed.size) (a b : Bool) : listed.getD j a = listed.getD j b := by
 rw [Array.getD_eq_getD_getElem?, Array.getD_eq_getD_getElem?, Array.getElem?_eq_getElem h]
 rfl

theorem getD_false_lt {listed : Array Bool} {j : Nat} (h : listed.getD j true = false) : j < listed.size := by
 rcases Nat.lt_or_ge j listed.size with h' | h'
 ·exact h'
 ·rw [Array.getD_eq_getD_getElem?, Array.getElem?_eq_none h'] at h
  cases h

theorem getD_set_self {listed : Array Bool} {j : Nat} (a : Bool) (h : j < listed.size) : (listed.setIfInBounds j true).getD j a = true := by
 rw [Array.getD_eq_getD_getElem?, Array.getElem?_setIfInBounds_self_of_lt h]
 rfl

theorem closed_set {listed : Array Bool} {i : Nat} {o : Oper} (hcl : Closed ops listed) (hi : ops[i]? = some o) (hp : ∀ e ∈ o.after, Region.binds .any e = true → listed.getD e.on false = true) : Closed ops (listed.setIfInBounds i true) := by
 intro j o' ho' hj e he hb
 by_cases hij : i = j
 ·subst hij
  rw [hi] at ho'
  obtain rfl := Option.some.inj ho'
  exact getD_set_true (hp e he hb)
 ·rw [getD_set_ne true hij] at hj
  exact getD_set_true (hcl j o' ho' hj e he hb)

theorem any_sound {bs : Array Nat} {n : Nat} {c : Ctx} {Q : Exit → KS} (go : GOk P c) (hid : ∀ (k : Nat) o, ops[k]? = some o → opAllocs P o.op = true → idf k < n) (hb : indepBy mk ops bs = true) :
  ∀ (fuel : Nat) (r : List Nat) (listed : Array Bool) (a : Act) (w : World) (s : List V) (rows : List Row), r.length ≤ fuel → n ≤ rows.length → Facts F rows → listed.size = ops.size →
   (∀ j, j ∈ r ↔ listed.getD j true = false) → r.Pairwise (· < ·) → Closed ops listed → Conc c s rows a w → aruns P F mk ops idf r K s rows →
   wpAny P .any ops (lift c (athen K Q)) fuel listed a w := by
 have hb1 : closOk ops bs = true := by
  unfold indepBy at hb
  exact (Bool.and_eq_true _ _ ▸ hb).1
 have hb2 : ∀ i j, i < ops.size → j < i → (bs.getD i 0).testBit j = true ∨ compat mk ops j i = true := by
  intro i j hi hj
  unfold indepBy at hb
  have := (Bool.and_eq_true _ _ ▸ hb).2
  rw [List.all_eq_true] at this
  have := this i (List.mem_range.2 hi)
  rw [List.all_eq_true] at this
  have := this j (List.mem_range.2 hj)
  rwa [Bool.or_eq_true] at this
 have hcs := closSpec_of hb1
 intro fuel
 induction fuel with
 | zero =>
  intro r listed a w s rows hf hl hF hsz hr hp hcl hc h
  obtain rfl := List.eq_nil_of_length_eq_zero (Nat.le_zero.1 hf)
  refine ⟨?_, s, rows, h, hc⟩
  refine List.eq_nil_iff_forall_not_mem.2 fun j hj => ?_
  exact absurd ((hr j).2 (mem_ready.1 hj).1) (by simp)
 | succ fuel ih =>
  intro r listed a w s rows hf hl hF hsz hr hp hcl hc h
  refine ⟨fun hnil => ?_, fun i hi => ?_⟩
  ·cases r with
   | nil => exact ⟨s, rows, h, hc⟩
   | cons j r =>
    exfalso
    have hj := (hr j).1 (by simp)
    have hjs : j < ops.size := hsz ▸ getD_false_lt hj
    have hoj : ops[j]? = some (ops[j]'hjs) := Array.getElem?_eq_getElem hjs
    have : j ∈ Region.ready .any ops listed := by
     refine mem_ready.2 ⟨hj, _, hoj, fun e he hbd => ?_⟩
     have hlt := hcs.lt j _ e hoj he hbd
     have hnot : e.on ∉ j :: r := by
      intro hm
      rcases List.mem_cons.1 hm with hm | hm
      ·omega
      ·have := (List.pairwise_cons.1 hp).1 _ hm
       omega
     rw [getD_size (by omega) false true]
     cases hv : listed.getD e.on true with
     | true => rfl
     | false => exact absurd ((hr e.on).2 hv) hnot
    rw [hnil] at this
    cases this
  ·obtain ⟨hi1, o, ho, hpre⟩ := mem_ready.1 hi
   obtain ⟨l1, l2, rfl⟩ := List.append_of_mem ((hr i).2 hi1)
   have hlt1 : ∀ j ∈ l1, j < i := fun j hj => (List.pairwise_append.1 hp).2.2 j hj i (by simp)
   have hio : i < ops.size := (Array.getElem?_eq_some_iff.1 ho).1
   have hcomp : ∀ j ∈ l1, compat mk ops j i = true := by
    intro j hj
    refine (hb2 i j hio (hlt1 j hj)).resolve_left fun hbit => ?_
    have h1 := before_listed hsz hcs hcl i o ho hpre j (hlt1 j hj) hbit
    have h2 := (hr j).1 (by simp [hj])
    rw [getD_size (getD_false_lt h2) false true, h2] at h1
    cases h1
   have hW : Wf P F s rows := ⟨⟨c, a, w, go, hc⟩, hF⟩
   have hfront := aop1_mono (K2 := fun s' r' => (aruns P F mk ops idf (l1 ++ l2) K s' r' ∧ rows.length ≤ r'.length) ∧ Facts F r') (fun s' r' hw' h' => ⟨h', hw'.2⟩) hW (aop1_len (idf := idf) (fun k o hk ha => Nat.lt_of_lt_of_le (hid k o hk ha) hl) (aruns_front hid l1 s rows hl hcomp hW h))
   have ih' : ∀ a' w' s' rows', n ≤ rows'.length → Facts F rows' → Conc c s' rows' a' w' → aruns P F mk ops idf (l1 ++ l2) K s' rows' → wpAny P .any ops (lift c (athen K Q)) fuel (listed.setIfInBounds i true) a' w' := by
    intro a' w' s' rows' hl' hF' hc' h'
    have hnod := hp.imp (S := (· ≠ ·)) (fun h => Nat.ne_of_lt h)
    refine ih (l1 ++ l2) _ a' w' s' rows' (by simp at hf ⊢; omega) hl' hF' (by simpa using hsz) (fun j => ?_) ?_ (closed_set hcl ho hpre) hc' h'
    ·by_cases hij : i = j
     ·subst hij
      rw [getD_set_self true (getD_false_lt hi1)]
      constructor
      ·intro hm
       exfalso
       have h1 := List.pairwise_append.1 hnod
       rcases List.mem_append.1 hm with hm | hm
       ·exact h1.2.2 i hm i (by simp) rfl
       ·exact (List.pairwise_cons.1 h1.2.1).1 i hm rfl
      ·intro h; cases h
     ·rw [getD_set_ne true hij, ← hr j]
      simp [Ne.symm hij]
    ·exact hp.sublist (List.Sublist.append (List.Sublist.refl _) (List.sublist_cons_self _ _))
   obtain ⟨ro, ρ, g, hs⟩ := hc
   unfold wpOp
   simp only [ho]
   unfold aop1 at hfront
   simp only [ho] at hfront
   rcases wanted_of (c := c) hs hfront with ⟨hw, h⟩ | ⟨hw, h⟩
   ·rw [if_pos hw]
    obtain ⟨draw, id', hae⟩ := aeffM_aeff hF h
    refine .inl (oper_wp (c := c) go hs g hae ?_)
    intro v w' r rows' ro' ρ' h1 h2 h3
    exact ih' _ _ _ _ (Nat.le_trans hl h1.1.2) h1.2 ⟨ro', ρ', h2, h3⟩ h1.1.1
   ·rw [if_neg (by simp [hw])]
    exact ih' _ _ _ _ hl hF ⟨ro, ρ, g, hs.put .junk o.dst⟩ h.1.1

end

def opNew : Op → Bool
 | .alloc _ | .box _ _ | .buildSlice _ _ _ | .makeSlice _ _ _ | .convert _ _ _ => true
 | .call c => (match c.callee with
  | .builtin .append => true
  | _ => false)
 | _ => false

theorem opNew_of {P : Program} {op : Op} (h : opAllocs P op = true) : opNew op = true := by
 cases op <;> first | rfl | exact h | (simp only [opAllocs] at h; exact absurd h (by simp))

def opsNew (ops : Array Oper) : Nat := (ops.toList.filter fun o => opNew o.op).length

def arunD (P : Program) (ops : Array Oper) (F : List (Nat × Nat × V)) : List Nat → List Oper → Nat → List V → List Row → KS → Prop
 | _, [], _, s, rows, K => K s rows
 | ms, o :: os, id, s, rows, K => aguard ops o.guard s (aeffM P F (ms.headD 0) o.op id s rows fun v rows' => arunD P ops F ms.tail os (if opNew o.op = true then id + 1 else id) (sput s o.dst v) rows' K)
   (arunD P ops F ms.tail os (if opNew o.op = true then id + 1 else id) (sput s o.dst .junk) rows K)

section
variable {P : Program} {ops : Array Oper} {F : List (Nat × Nat × V)} {s : List V} {rows : List Row} {K : KS}

def idAt (ops : Array Oper) (base i : Nat) : Nat := base + ((ops.toList.take i).filter fun o => opNew o.op).length

def markAt (ms : List Nat) (i : Nat) : Nat := ms.getD i 0

theorem arunD_aruns (base : Nat) (ms : List Nat) : ∀ (os : List Oper) (t : Nat), ops.toList.drop t = os → ∀ (s : List V) (rows : List Row), arunD P ops F (ms.drop t) os (idAt ops base t) s rows K → aruns P F (markAt ms) ops (idAt ops base) (List.range' t os.length) K s rows
 | [], t, hd, s, rows, h => h
 | o :: os, t, hd, s, rows, h => by
  have ht : ops.toList[t]? = some o := by
   have := congrArg (fun l => l[0]?) hd
   simpa using this
  have hd' : ops.toList.drop (t + 1) = os := by
   have := congrArg List.tail hd
   simpa using this
  have hid : (if opNew o.op = true then idAt ops base t + 1 else idAt ops base t) = idAt ops base (t + 1) := by
   unfold idAt
   rw [List.take_add_one, ht]
   by_cases hn : opNew o.op = true
   ·simp [hn, List.filter_append]; omega
   ·simp [hn, List.filter_append]
  have ho : ops[t]? = some o := by simpa using ht
  have ih := fun s rows => arunD_aruns base ms os (t + 1) hd' s rows
  have hm : (ms.drop t).headD 0 = markAt ms t := by
   unfold markAt
   rw [List.headD_eq_head?_getD, List.head?_drop, List.getD_eq_getElem?_getD]
  simp only [arunD, hid, hm, List.tail_drop] at h
  simp only [List.length_cons, List.range'_succ, aruns]
  refine (aop1_some ho).2 ?_
  rcases aguard_iff.1 h with ⟨h1, h2⟩ | ⟨h1, h2⟩
  ·obtain ⟨v, rows', h3, h4⟩ := aeffM_cont h2
   exact .inl ⟨h1, h4 (fun v r => aruns P F (markAt ms) ops (idAt ops base) (List.range' (t + 1) os.length) K (sput s o.dst v) r) (ih _ _ h3)⟩
  ·exact .inr ⟨h1, ih _ _ h2⟩

theorem awp_region_draw {n0 id m : Nat} {Q : Exit → KS} (hF : Facts F rows) (hm : P.follows .mixedOrders = true) (ms : List Nat) (hi : indep (markAt ms) ops = true) (hn : opsNew ops = m)
  (h : arunD P ops F ms ops.toList rows.length s (rows ++ List.replicate m .resv) (Q .normal)) : AWp P n0 (.region id ops true) Q s rows := by
 subst hn
 intro c a w hn0 hc
 obtain ⟨ro, ρ, g, hs⟩ := hc
 have hF0 : Facts F (rows ++ List.replicate (opsNew ops) .resv) := fun p hp => by
  obtain ⟨cs, h1, h2⟩ := hF p hp
  exact ⟨cs, by rw [List.getElem?_append_left (List.getElem?_eq_some_iff.1 h1).1]; exact h1, h2⟩
 have hr := arunD_aruns rows.length ms ops.toList 0 rfl s _ (by simpa [idAt] using h)
 refine wp_mono (Q := lift c (athen (Q .normal) Q)) (wp_region_any hm ?_) ?_
 ·refine any_sound hn0.2 (idf := idAt ops rows.length) (n := rows.length + opsNew ops) (bs := clos ops) ?_ hi ops.size (List.range' 0 ops.toList.length) _ a _ s _ (by simp) (by simp) hF0 (by simp) ?_ ?_ ?_ ?_ hr
  ·intro k o ho ha
   have hk : k < ops.size := (Array.getElem?_eq_some_iff.1 ho).1
   have hnew := opNew_of ha
   unfold idAt opsNew
   have : ops.toList = ops.toList.take k ++ o :: ops.toList.drop (k + 1) := by
    have hk' : k < ops.toList.length := by simpa using hk
    have he : ops.toList[k]'hk' = o := by
     have := (Array.getElem?_eq_some_iff.1 ho).2
     simpa using this
    rw [← he, List.getElem_cons_drop, List.take_append_drop]
   have h2 := congrArg (fun l => (l.filter fun o => opNew o.op).length) this
   simp only [List.filter_append, List.length_append, List.filter_cons, hnew, if_true, List.length_cons] at h2
   omega
  ·intro j
   rw [List.mem_range'_1]
   constructor
   ·intro hj
    have : j < ops.size := by simpa using hj
    simp [this]
   ·intro hj
    have := getD_false_lt hj
    simpa using this
  ·exact List.pairwise_lt_range'
  ·intro i o ho hl
   have hi : i < ops.size := (Array.getElem?_eq_some_iff.1 ho).1
   simp [hi] at hl
  ·obtain ⟨g1, e1⟩ := g.drew (w.drawn + 1)
   obtain ⟨g2, e2⟩ := g1.reserve (opsNew ops)
   exact ⟨ro, _, g2, (hs.ext e1).ext e2⟩
 ·rintro e a' w' ⟨s', rows', hQ, hc'⟩
  cases e <;> exact ⟨s', rows', hQ, hc'⟩

end
end Go.VS
set_option linter.all false
namespace Go.VS

section
variable {P : Program} {n0 : Nat} {Q : Exit → KS} {s : List V} {rows : List Row}

theorem awp_loop' {α : Type} (S : α → List V) (R : α → List Row) (H : α → Prop) (μ : α → Nat) (x0 : α) {code : Code} (h0 : H x0) (hle : Le n0 s rows (S x0) (R x0))
  (round : ∀ x, H x → ∀ K : KS, (∀ x' s' rows', H x' → μ x' < μ x → Le n0 s' rows' (S x') (R x') → K s' rows') → AWp P n0 code (athen K Q) (S x) (R x)) : AWp P n0 (.loop code) Q s rows := by
 refine awp_loop (α := { x : α // H x }) (fun x => (S x.1, R x.1)) (fun x => μ x.1) ⟨x0, h0⟩ hle fun x => ?_
 refine round x.1 x.2 _ fun x' s' rows' h1 h2 h3 => ⟨⟨x', h1⟩, h2, h3⟩

theorem awp_count (S : Nat → List V) (R : Nat → List Row) (n : Nat) {code : Code} (hle : Le n0 s rows (S 0) (R 0))
  (round : ∀ i, i ≤ n → ∀ K : KS, (∀ s' rows', i < n → Le n0 s' rows' (S (i + 1)) (R (i + 1)) → K s' rows') → AWp P n0 code (athen K Q) (S i) (R i)) : AWp P n0 (.loop code) Q s rows :=
 awp_loop' S R (fun i => i ≤ n) (fun i => n + 1 - i) 0 (Nat.zero_le _) hle fun i hi K hK => round i hi K fun s' rows' h1 h2 => hK (i + 1) s' rows' (by omega) (by omega) h2

end

section
variable {P : Program} {draw : Bool} {f : FuncId} {cap args args' : List V} {rows : List Row} {k : KV} {r : V}

theorem acall_pure (h : PCall P f (args ++ cap) r) (hp : ∀ x ∈ args ++ cap, x.Pure) (hk : k r rows) : acall P draw (.fn (.func f) cap) args rows k := .inl (.inr ⟨r, hp, h, hk⟩)

theorem acall_view (h : PCall P f args' r) (hv : Views rows (args ++ cap) args') (hf : r.Flat) (hk : k r rows) : acall P draw (.fn (.func f) cap) args rows k := .inl (.inl ⟨args', r, hv, h, hf, hk⟩)

end

section
variable {P : Program} {F : List (Nat × Nat × V)} {p : Nat × Nat × V} {op : Op} {id m : Nat} {s : List V} {rows : List Row} {k : KV}
@[simp] theorem aeffM_0 : aeffM P [] 0 op id s rows k = aeff P true op id s rows k := by
 show aeff P true op id s rows (fun v r => (opKind op = 3 → Facts [] r) ∧ k v r) = _
 simp
@[simp] theorem aeffM_0c : aeffM P (p :: F) 0 op id s rows k = aeff P true op id s rows fun v r => (opKind op = 3 → Facts (p :: F) r) ∧ k v r := rfl
@[simp] theorem aeffM_1 : aeffM P F 1 op id s rows k = aeffP P op s rows k := rfl
@[simp] theorem aeffM_2 : aeffM P [] 2 op id s rows k = aeffW P op s rows k := by
 show aeffW P op s rows (fun v r => Facts [] r ∧ k v r) = _
 simp
@[simp] theorem aeffM_2c : aeffM P (p :: F) 2 op id s rows k = aeffW P op s rows fun v r => Facts (p :: F) r ∧ k v r := rfl
@[simp] theorem aeffM_3 : aeffM P F 3 op id s rows k = aeffS P F op s rows k := rfl

end
attribute [simp] opNew aeffP aeffW
@[simp] theorem pure_bool {b : Bool} : (V.bool b).Pure := .bool
@[simp] theorem pure_int {k : IntKind} {n : Int} : (V.int k n).Pure := .int
@[simp] theorem pure_str {b : List UInt8} : (V.str b).Pure := .str
@[simp] theorem pure_nilp : V.nilp.Pure := .nilp
@[simp] theorem pure_rptr {c : List V} : (V.rptr c).Pure := .rptr
@[simp] theorem pure_nils : V.nils.Pure := .nils
@[simp] theorem pure_sl {n : Nat} {c : List V} : (V.sl n c).Pure := .sl
@[simp] theorem pure_nilf : V.nilf.Pure := .nilf
@[simp] theorem pure_niface : V.niface.Pure := .niface
@[simp] theorem pure_agg {c : List V} : (V.agg c).Pure ↔ ∀ x ∈ c, x.Pure := ⟨fun h => by cases h; assumption, fun h => .agg h⟩
@[simp] theorem pure_tup {c : List V} : (V.tup c).Pure ↔ ∀ x ∈ c, x.Pure := ⟨fun h => by cases h; assumption, fun h => .tup h⟩
@[simp] theorem pure_fn {f : Fn} {c : List V} : (V.fn f c).Pure ↔ ∀ x ∈ c, x.Pure := ⟨fun h => by cases h; assumption, fun h => .fn h⟩
@[simp] theorem pure_iface {t : TypeId} {x : V} : (V.iface t x).Pure ↔ x.Pure := ⟨fun h => by cases h; assumption, fun h => .iface h⟩
@[simp] theorem pure_ref {i o : Nat} : ¬ (V.ref i o).Pure := fun h => by cases h
@[simp] theorem pure_osl {i o n z : Nat} : ¬ (V.osl i o n z).Pure := fun h => by cases h

theorem view_osl {rows : List Row} {id off n sz : Nat} {cs : List V} (h : rows[id]? = some (.live cs)) (hl : off + n * sz ≤ cs.length) (hp : ∀ x ∈ (cs.drop off).take (n * sz), x.Pure) :
  View rows (.osl id off n sz) (.sl n ((cs.drop off).take (n * sz))) := by
 refine .osl h hl (by simp; omega) fun i x y hx hy => ?_
 rw [List.getElem?_take] at hy
 split at hy
 ·rw [List.getElem?_drop, hx] at hy
  obtain rfl := Option.some.inj hy
  exact .pure (hp _ (List.mem_of_getElem? (i := i) (by rw [List.getElem?_take, if_pos (by assumption), List.getElem?_drop]; exact hx)))
 ·cases hy

theorem view_row {rows : List Row} {id n sz : Nat} {cs : List V} (h : rows[id]? = some (.live cs)) (hl : n * sz = cs.length) (hp : ∀ x ∈ cs, x.Pure) : View rows (.osl id 0 n sz) (.sl n cs) := by
 have := view_osl (off := 0) (n := n) (sz := sz) h (by omega) (by simpa [hl] using hp)
 simpa [hl] using this

theorem view_ref {rows : List Row} {id : Nat} {cs : List V} (h : rows[id]? = some (.live cs)) (hl : cs ≠ []) (hp : ∀ x ∈ cs, x.Pure) : View rows (.ref id 0) (.rptr cs) := by
 refine .ref h hl (by omega) fun i x y hx hy => ?_
 rw [Nat.zero_add, hy] at hx
 obtain rfl := Option.some.inj hx
 exact .pure (hp _ (List.mem_of_getElem? hy))

@[simp] theorem views_nil {rows : List Row} : Views rows [] [] ↔ True := Iff.rfl
@[simp] theorem views_cons {rows : List Row} {x y : V} {xs ys : List V} : Views rows (x :: xs) (y :: ys) ↔ View rows x y ∧ Views rows xs ys := Iff.rfl

theorem rens_self {ex : Bool} {m : List (Option Nat)} : ∀ {cs : List V}, (∀ x ∈ cs, x.Pure) → Rens ex m cs cs
 | [], _ => trivial
 | x :: xs, h => ⟨.pure (h x (by simp)), rens_self fun y hy => h y (by simp [hy])⟩

@[simp] theorem rowRen_self {ex : Bool} {m : List (Option Nat)} {cs : List V} (h : ∀ x ∈ cs, x.Pure) : RowRen ex m (.live cs) (.live cs) ↔ True := iff_true_intro (show Rens ex m cs cs from rens_self h)

theorem wrap_i64 {n : Int} (h1 : -9223372036854775808 ≤ n) (h2 : n ≤ 9223372036854775807) : IntKind.i64.wrap n = n := by
 simp [IntKind.wrap, IntKind.signed, IntKind.bits]; omega
theorem wrap_u8 {n : Int} (h1 : 0 ≤ n) (h2 : n ≤ 255) : IntKind.u8.wrap n = n := by
 simp [IntKind.wrap, IntKind.signed, IntKind.bits]; omega
theorem wrap_u32 {n : Int} (h1 : 0 ≤ n) (h2 : n ≤ 4294967295) : IntKind.u32.wrap n = n := by
 simp [IntKind.wrap, IntKind.signed, IntKind.bits]; omega
theorem wrap_u64 {n : Int} (h1 : 0 ≤ n) (h2 : n ≤ 18446744073709551615) : IntKind.u64.wrap n = n := by
 simp [IntKind.wrap, IntKind.signed, IntKind.bits]; omega

end Go.VS
set_option linter.all false
namespace Go.VS


attribute [simp] zeros IntKind.bits
@[simp] theorem ex_pair {α β : Type} {a : α} {b : β} {p : α → β → Prop} : (∃ n e, (a = n ∧ b = e) ∧ p n e) ↔ p a b :=
 ⟨fun ⟨_, _, ⟨h1, h2⟩, h⟩ => by subst h1; subst h2; exact h, fun h => ⟨a, b, ⟨rfl, rfl⟩, h⟩⟩

theorem lput_all {cs vs : List V} (h : vs.length = cs.length) : lput cs 0 vs = vs := by
 apply List.ext_getElem?
 intro j
 rw [lput_get _ _ _ _ (by omega)]
 by_cases hj : j < vs.length
 ·rw [if_pos (by omega)]; simp
 ·rw [if_neg (by omega), List.getElem?_eq_none (by omega), List.getElem?_eq_none (by omega)]

theorem lput_eq {cs vs : List V} {o : Nat} (h : o + vs.length ≤ cs.length) : lput cs o vs = cs.take o ++ vs ++ cs.drop (o + vs.length) := by
 apply List.ext_getElem?
 intro j
 rw [lput_get _ _ _ _ h, List.append_assoc, List.getElem?_append, List.getElem?_append]
 simp only [List.length_take, Nat.min_eq_left (show o ≤ cs.length by omega), List.getElem?_drop]
 by_cases h1 : j < o
 ·rw [if_neg (by omega), if_pos h1, List.getElem?_take, if_pos h1]
 ·rw [if_neg h1]
  by_cases h2 : j < o + vs.length
  ·rw [if_pos (by omega), if_pos (by omega)]
  ·rw [if_neg (by omega), if_neg (by omega)]
   congr 1
   omega

theorem ofInt_nat (w a : Nat) : BitVec.ofInt w (a : Int) = BitVec.ofNat w a := by
 apply BitVec.eq_of_toNat_eq
 simp

theorem bits_nat {k : IntKind} {a b : Nat} (ha : a < 2 ^ k.bits) (hb : b < 2 ^ k.bits) :
  bits .and k a b = k.wrap ((a &&& b : Nat) : Int) ∧ bits .or k a b = k.wrap ((a ||| b : Nat) : Int) ∧ bits .xor k a b = k.wrap ((a ^^^ b : Nat) : Int) := by
 refine ⟨?_, ?_, ?_⟩ <;> simp only [bits, ofInt_nat, BitVec.toNat_and, BitVec.toNat_or, BitVec.toNat_xor, BitVec.toNat_ofNat, Nat.mod_eq_of_lt ha, Nat.mod_eq_of_lt hb]

theorem bits_and_mask {k : IntKind} {n : Int} (j : Nat) (h0 : 0 ≤ n) (h1 : n < 2 ^ k.bits) (hj : j < k.bits) : bits .and k n ((2 ^ j - 1 : Nat) : Int) = n % 2 ^ j := by
 obtain ⟨a, rfl⟩ : ∃ a : Nat, n = a := ⟨n.toNat, by omega⟩
 have hp : 2 ^ j < 2 ^ k.bits := Nat.pow_lt_pow_right (by omega) hj
 have ha : a < 2 ^ k.bits := by exact_mod_cast h1
 rw [(bits_nat ha (by omega)).1, Nat.and_two_pow_sub_one_eq_mod]
 have hlt : a % 2 ^ j < 2 ^ j := Nat.mod_lt _ (Nat.two_pow_pos j)
 have hle : 2 ^ j ≤ 2 ^ (k.bits - 1) := Nat.pow_le_pow_right (by omega) (by omega)
 have hw : k.wrap ((a % 2 ^ j : Nat) : Int) = ((a % 2 ^ j : Nat) : Int) := by
  generalize a % 2 ^ j = m at *
  generalize 2 ^ j = q at *
  have : m < 2 ^ (k.bits - 1) := by omega
  cases k <;> simp [IntKind.wrap, IntKind.signed, IntKind.bits] at * <;> omega
 rw [hw]
 simp

theorem and15_u8 {n : Int} (h0 : 0 ≤ n) (h1 : n ≤ 255) : bits .and .u8 n 15 = n % 16 := bits_and_mask (k := .u8) 4 h0 (by simp; omega) (by decide)
theorem and15_i64 {n : Int} (h0 : 0 ≤ n) (h1 : n ≤ 9223372036854775807) : bits .and .i64 n 15 = n % 16 := bits_and_mask (k := .i64) 4 h0 (by simp; omega) (by decide)

@[simp] theorem afill_nil {place : Nat → Option (Nat × Nat)} {ρ : Operand → V} {cs : List V} {k : List V → Prop} : afill place ρ [] cs k ↔ k cs := Iff.rfl

@[simp] theorem afill_cons {place : Nat → Option (Nat × Nat)} {ρ : Operand → V} {i : Nat} {x : Operand} {r : List (Nat × Operand)} {cs : List V} {k : List V → Prop} :
  afill place ρ ((i, x) :: r) cs k ↔ match place i, vcells (ρ x) with
   | some p, some vs => vs.length = p.2 ∧ p.1 + p.2 ≤ cs.length ∧ afill place ρ r (lput cs p.1 vs) k
   | _, _ => False := by
 constructor
 ·rintro ⟨off, sz, vs, h1, h2, h3⟩
  simp only [h1, h2]
  exact h3
 ·intro h
  split at h
  ·rename_i p vs h1 h2
   exact ⟨p.1, p.2, vs, h1, h2, h⟩
  ·exact h.elim

theorem Views.at {rows : List Row} : ∀ {xs ys : List V}, Views rows xs ys → xs.length = ys.length ∧ ∀ (i : Nat) x y, xs[i]? = some x → ys[i]? = some y → View rows x y := fun h => h.get

theorem view_tup {rows : List Row} {c d : List V} (h : Views rows c d) : View rows (.tup c) (.tup d) := .tup h.get.1 h.get.2
theorem view_agg {rows : List Row} {c d : List V} (h : Views rows c d) : View rows (.agg c) (.agg d) := .agg h.get.1 h.get.2

end Go.VS
set_option linter.all false
namespace Go.VS

section
variable {P : Program} {ops : Array Oper} {F : List (Nat × Nat × V)} {s : List V} {rows : List Row} {K : KS} {o : Oper} {os : List Oper} {ms : List Nat} {id : Nat}

theorem arun_end (h : K s rows) : arun P ops [] s rows K := h

theorem arun_go (hg : gval ops o.guard s = some true) (h : ∀ K2 : KV, (∀ v rows', arun P ops os (sput s o.dst v) rows' K → K2 v rows') → aeff P false o.op rows.length s rows K2) : arun P ops (o :: os) s rows K :=
 aguard_iff.2 (.inl ⟨hg, h _ fun _ _ h => h⟩)

theorem arun_no (hg : gval ops o.guard s = some false) (h : arun P ops os (sput s o.dst .junk) rows K) : arun P ops (o :: os) s rows K :=
 aguard_iff.2 (.inr ⟨hg, h⟩)

theorem arunD_end (h : K s rows) : arunD P ops F ms [] id s rows K := h

theorem arunD_go (hg : gval ops o.guard s = some true) (h : ∀ K2 : KV, (∀ v rows', arunD P ops F ms.tail os (if opNew o.op = true then id + 1 else id) (sput s o.dst v) rows' K → K2 v rows') → aeffM P F (ms.headD 0) o.op id s rows K2) : arunD P ops F ms (o :: os) id s rows K :=
 aguard_iff.2 (.inl ⟨hg, h _ fun _ _ h => h⟩)

theorem arunD_no (hg : gval ops o.guard s = some false) (h : arunD P ops F ms.tail os (if opNew o.op = true then id + 1 else id) (sput s o.dst .junk) rows K) : arunD P ops F ms (o :: os) id s rows K :=
 aguard_iff.2 (.inr ⟨hg, h⟩)

end

theorem awp_seq' {n0 : Nat} {P : Program} {Q : Exit → KS} {s : List V} {rows : List Row} {x y : Code}
  (h : ∀ K : KS, (∀ s rows, AWp P n0 y Q s rows → K s rows) → (∀ s rows s' rows', Le n0 s rows s' rows' → K s' rows' → K s rows) → AWp P n0 x (athen K Q) s rows) : AWp P n0 (.seq x y) Q s rows := by
 refine awp_seq fun K hK => awp_mono (h (AWp P n0 y Q) (fun _ _ h => h) (fun _ _ _ _ hl h => awp_le hl h)) fun e s rows he => ?_
 cases e <;> first | exact hK _ _ he | exact he

attribute [simp] gval
def uptr (P : Program) (t : TypeId) : Bool := match P.underlying t with
 | some (.pointer _) => true
 | _ => false
def ubool (P : Program) (t : TypeId) : Bool := match P.underlying t with
 | some .bool => true
 | _ => false

section
variable {P : Program} {t e d : Nat}
theorem uptr_of (h : uptr P t = true) : ∃ e, P.underlying t = some (.pointer e) := by
 unfold uptr at h
 split at h
 ·exact ⟨_, by assumption⟩
 ·simp at h
theorem ubool_of (h : ubool P t = true) : P.underlying t = some .bool := by
 unfold ubool at h
 split at h
 ·assumption
 ·simp at h
@[simp] theorem aeq_nilp (h : uptr P t = true) : aeq P (d + 1) t .nilp .nilp = some true := by
 obtain ⟨e, he⟩ := uptr_of h; simp [aeq, he]
@[simp] theorem aeq_ref_nilp {i o : Nat} (h : uptr P t = true) : aeq P (d + 1) t (.ref i o) .nilp = some false := by
 obtain ⟨e, he⟩ := uptr_of h; simp [aeq, he]
@[simp] theorem aeq_nilp_ref {i o : Nat} (h : uptr P t = true) : aeq P (d + 1) t .nilp (.ref i o) = some false := by
 obtain ⟨e, he⟩ := uptr_of h; simp [aeq, he]
@[simp] theorem aeq_rptr_nilp {c : List V} (h : uptr P t = true) : aeq P (d + 1) t (.rptr c) .nilp = some false := by
 obtain ⟨e, he⟩ := uptr_of h; simp [aeq, he]
@[simp] theorem aeq_nilp_rptr {c : List V} (h : uptr P t = true) : aeq P (d + 1) t .nilp (.rptr c) = some false := by
 obtain ⟨e, he⟩ := uptr_of h; simp [aeq, he]
@[simp] theorem aeq_bool {a b : Bool} (h : ubool P t = true) : aeq P (d + 1) t (.bool a) (.bool b) = some (a == b) := by
 have := ubool_of h; simp [aeq, this]
end

end Go.VS
