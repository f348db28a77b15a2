/-
  VALUE SEMANTICS, 12: an operation of a region; a region without a draw.
  Conditions: none; over any program.
-/
import Derived.Test.YtllehihgfbkgpaaVs11
set_option linter.unusedSimpArgs false
set_option linter.unusedVariables false
namespace Go.VS

def acall (P : Program) (draw : Bool) (fv : V) (args : List V) (rows : List Row) (k : KV) : Prop :=
  match fv with
  | .fn (.func f) cap => acallR P f (args ++ cap) rows k ∨ (draw = false ∧ acallW P f (args ++ cap) rows k)
  | _ => False

def aeff (P : Program) (draw : Bool) (op : Op) (id : Nat) (s : List V) (rows : List Row) (k : KV) : Prop :=
  match op with
  | .move x | .assign x => k (oval s x) rows
  | .pick c a b => (match oval s c with
    | .bool t => if t = true then k (oval s a) rows else k (oval s b) rows
    | _ => False)
  | .alloc e => ∃ z, uzero P e = some z ∧ Free rows id ∧ k (.ref id 0) (rput rows id (.live z))
  | .box _ v => abox (oval s v) id rows k
  | .build t parts => abuild P t (oval s) parts.toList fun v => k v rows
  | .buildSlice t len parts => abuildSlice P t len (oval s) parts.toList id rows k
  | .load t a => aload P t (oval s a) rows k
  | .store t a v => astore P t (oval s a) (oval s v) rows k
  | .nilCheck x => (match oval s x with
    | .ref id off => k (.ref id off) rows
    | .rptr cs => k (.rptr cs) rows
    | .fn (.func f) cap => k (.fn (.func f) cap) rows
    | _ => False)
  | .binOp op xt x y _ => abin P op xt (oval s x) (oval s y) fun v => k v rows
  | .unOp op _ x => aun op (oval s x) fun v => k v rows
  | .convert sr d x => aconv P sr d (oval s x) id rows k
  | .makeFunc fn first cap => first = #[] ∧ k (.fn fn (cap.toList.map (oval s))) rows
  | .makeInterface t x => uiface P t = some false ∧ k (.iface t (oval s x)) rows
  | .makeSlice t l c => amakeSlice P t (oval s l) (oval s c) id rows k
  | .slice t x lo hi mx => aslice P t (oval s x) (lo.map (oval s)) (hi.map (oval s)) (mx.map (oval s)) rows k
  | .fieldAddr t x f => afieldAddr P t (oval s x) f rows k
  | .field t x f => afield P t (oval s x) f fun v => k v rows
  | .indexAddr t x i => aindexAddr P t (oval s x) (oval s i) rows k
  | .index t x i => aindex P t (oval s x) (oval s i) fun v => k v rows
  | .extract t i => (match oval s t with
    | .tup vs => ∃ v, vs[i]? = some v ∧ k v rows
    | _ => False)
  | .call c => (match c.callee with
    | .builtin b => abuiltin P b c.argTypes (c.args.toList.map (oval s)) id rows k
    | .value f => acall P draw (oval s f) (c.args.toList.map (oval s)) rows k
    | _ => False)
  | _ => False

def Done (P : Program) (c : Ctx) (k : KV) (w : World) (ro : Nat → Prop) (ρ : Rho) : Result Next → Prop
  | .ok (.value v) w' => OpOk c k w ro ρ v w'
  | .ok .skip w' => OpOk c k w ro ρ undef w'
  | .ok (.enter f args) w' => Calls P f args w' fun e w'' => ∃ v, e = .returned v ∧ OpOk c k w ro ρ v w''
  | _ => False

section
variable {P : Program} {c : Ctx} {rows : List Row} {w : World} {ro : Nat → Prop} {ρ : Rho} {k : KV}

theorem Runs.done {s : Sem Value} (h : Runs P s c k w ro ρ) : Done P c k w ro ρ ((do pure (.value (← s)) : Sem Next).run P w) := by
  obtain ⟨v, w', hr, hok⟩ := h
  simp [hr, Done, hok]

theorem RunsU.done {s : Sem Unit} (h : RunsU P s c k w ro ρ) : Done P c k w ro ρ ((do s; pure .skip : Sem Next).run P w) := by
  obtain ⟨w', hr, hok⟩ := h
  simp [hr, Done, hok]

theorem sget_eq : ∀ (s : List V) (i : Nat), sget s i = (s[i]?).getD .junk
  | [], i => by simp [sget]
  | a :: s, 0 => by simp [sget]
  | a :: s, i + 1 => by simp [sget, sget_eq s i]

theorem sset_eq : ∀ (s : List V) (i : Nat) (v : V), sset s i v = s.set i v
  | [], i, v => by simp [sset]
  | a :: s, 0, v => by simp [sset]
  | a :: s, i + 1, v => by simp [sset, sset_eq s i]

/-- The slots read as abstract ones. -/
structure Slots (w : World) (ro : Nat → Prop) (ρ : Rho) (a : Act) (s : List V) : Prop where
  rds : Rds w ro ρ a.tmps.toList s
  nodefer : a.defers = []

theorem Slots.eval {a : Act} {s : List V} (h : Slots w ro ρ a s) (x : Operand) : Rd w ro ρ (a.eval x) (oval s x) := by
  cases x with
  | tmp t =>
    simp only [Act.eval, oval, sget_eq]
    cases hs : s[t]? with
    | none => exact .junk
    | some x =>
      obtain ⟨u, hu, hr⟩ := h.rds.get hs
      simp at hu
      rw [Array.getD_eq_getD_getElem?, hu]
      exact hr
  | const v => exact rd_ofConst v
  | global g => exact .val
  | func f => exact .fn rfl rfl fun i u x hu => by simp at hu

theorem Slots.put {a : Act} {s : List V} (h : Slots w ro ρ a s) {v : Value} {x : V} (hv : Rd w ro ρ v x) (dst : Option Tmp) : Slots w ro ρ (a.put dst v) (sput s dst x) := by
  cases dst with
  | none => exact h
  | some d =>
    refine ⟨⟨by simp [Act.put, sput, sset_eq, h.rds.1], fun i u y hu hy => ?_⟩, h.nodefer⟩
    simp only [sput, sset_eq] at hy
    simp only [Act.put, Array.toList_setIfInBounds] at hu
    rw [List.getElem?_set] at hu hy
    by_cases hd : d = i
    · subst hd
      simp at hu hy
      obtain ⟨_, rfl⟩ := hu
      obtain ⟨_, rfl⟩ := hy
      exact hv
    · rw [if_neg hd] at hu hy
      exact h.rds.2 i u y hu hy

theorem Slots.ext {a : Act} {s : List V} (h : Slots w ro ρ a s) {w' : World} {ro' : Nat → Prop} {ρ' : Rho} (e : Ext w ro ρ w' ro' ρ') : Slots w' ro' ρ' a s := ⟨h.rds.ext e, h.nodefer⟩

theorem rds_map {a : Act} {s : List V} (h : Slots w ro ρ a s) (xs : List Operand) : Rds w ro ρ (xs.map a.eval) (xs.map (oval s)) :=
  ⟨by simp, fun i u x hu hx => by
    simp at hu hx
    obtain ⟨o, ho, rfl⟩ := hu
    obtain ⟨o', ho', rfl⟩ := hx
    rw [ho] at ho'
    simp at ho'
    subst ho'
    exact h.eval o⟩

theorem ord_map {a : Act} {s : List V} (h : Slots w ro ρ a s) (x : Option Operand) : ORd w ro ρ (x.map a.eval) (x.map (oval s)) := by
  cases x with
  | none => trivial
  | some x => exact h.eval x

theorem done_call {draw : Bool} {a : Act} {s : List V} {f : Operand} {args : Array Operand} {ts : Array TypeId} {ty : TypeId} (hs : Slots w ro ρ a s) (g : Good c rows w ro ρ)
    (h : acall P draw (oval s f) (args.toList.map (oval s)) rows k) : Done P c k w ro ρ ((do let d ← resolve a.eval ⟨.value f, args, ts⟩ ty; invoke d.target d.args : Sem Next).run P w) := by
  have hf := hs.eval f
  generalize oval s f = fv at h hf
  unfold acall at h
  split at h
  · rename_i f' cap
    cases hfu : a.eval f with
    | func fn fs us =>
      rw [hfu] at hf
      cases hf with
      | fn h0 h1 h2 =>
        subst h0
        have hargs : Rds w ro ρ ((args.map a.eval ++ us).toList) (args.toList.map (oval s) ++ cap) := by
          rw [Array.toList_append, Array.toList_map]
          exact (rds_map hs args.toList).append ⟨by simpa using h1, fun i u x hu hx => h2 i u x (by simpa using hu) hx⟩
        have hcc : Enters P f' ∧ Calls P f' (args.map a.eval ++ us) w fun e w' => ∃ v, e = .returned v ∧ OpOk c k w ro ρ v w' := by
          rcases h with h | ⟨-, h⟩
          · exact calls_acallR g hargs h
          · exact calls_acallW g hargs h
        simp [resolve, hfu, Deferred.ofValue, invoke, hcc.1 _ _, Done, hcc.2]
    | _ => rw [hfu] at hf; cases hf
  · exact h.elim

theorem done_builtin {b : Builtin} {a : Act} {s : List V} {id : Nat} {args : Array Operand} {ts : Array TypeId} {ty : TypeId} (hs : Slots w ro ρ a s) (g : Good c rows w ro ρ)
    (h : abuiltin P b ts (args.toList.map (oval s)) id rows k) : Done P c k w ro ρ ((do let d ← resolve a.eval ⟨.builtin b, args, ts⟩ ty; invoke d.target d.args : Sem Next).run P w) := by
  have ha := rds_map hs args.toList
  have harr : args.map a.eval = (args.toList.map a.eval).toArray := by apply Array.ext'; simp
  generalize args.toList.map (oval s) = xs at h ha
  generalize args.toList.map a.eval = us at ha harr
  have two : ∀ {x y : V}, Rds w ro ρ us [x, y] → ∃ u v, us = [u, v] ∧ Rd w ro ρ u x ∧ Rd w ro ρ v y := by
    intro x y hr
    match us, hr with
    | [u, v], hr => exact ⟨u, v, rfl, hr.2 0 u x rfl rfl, hr.2 1 v y rfl rfl⟩
    | [], hr => simp [Rds] at hr
    | [_], hr => simp [Rds] at hr
    | _ :: _ :: _ :: _, hr => simp [Rds] at hr
  unfold abuiltin at h
  split at h
  · rename_i x
    obtain ⟨t, ht, h⟩ := h
    match us, ha with
    | [u], ha =>
      have := (runs_alen (P := P) (ty := ty) g (ha.2 0 u x rfl rfl) h).done
      have e : Builtin.len_ ts ty #[u] = Builtin.len_ #[t] ty #[u] := by simp [Builtin.len_, ht]
      simpa [resolve, harr, invoke, builtin, e] using this
    | [], ha => simp [Rds] at ha
    | _ :: _ :: _, ha => simp [Rds] at ha
  · rename_i x y
    obtain ⟨t, t', ht, ht', hor, h⟩ := h
    obtain ⟨u, v, rfl, hu, hv⟩ := two ha
    have := (runs_aappend (P := P) (ty := ty) g hu hv hor h).done
    have e : Builtin.append_ ts ty #[u, v] = Builtin.append_ #[t, t'] ty #[u, v] := by simp [Builtin.append_, ht, ht']
    simpa [resolve, harr, invoke, builtin, e] using this
  · rename_i x y
    obtain ⟨t, ht, h⟩ := h
    obtain ⟨u, v, rfl, hu, hv⟩ := two ha
    have := (runs_acopy (P := P) (ty := ty) (t' := t) g hu hv h).done
    have e : Builtin.copy_ ts ty #[u, v] = Builtin.copy_ #[t, t] ty #[u, v] := by simp [Builtin.copy_, ht]
    simpa [resolve, harr, invoke, builtin, e] using this
  · have := (runs_aminmax (P := P) (ts := ts) (ty := ty) (mx := false) g ha h).done
    simpa [resolve, harr, invoke, builtin] using this
  · have := (runs_aminmax (P := P) (ts := ts) (ty := ty) (mx := true) g ha h).done
    simpa [resolve, harr, invoke, builtin] using this
  · exact h.elim

theorem parts_eq {a : Act} (parts : Array (Nat × Operand)) : (parts.map fun (i, x) => (i, a.eval x)) = (parts.toList.map fun p => (p.1, a.eval p.2)).toArray := by
  apply Array.ext'
  simp

set_option maxHeartbeats 1000000 in
theorem aeff_sound {draw : Bool} {o : Oper} {a : Act} {s : List V} {id : Nat} (hs : Slots w ro ρ a s) (g : Good c rows w ro ρ) (h : aeff P draw o.op id s rows k) : Done P c k w ro ρ ((execOp a.eval o).run P w) := by
  obtain ⟨dst, op, type, pos, after, guard⟩ := o
  simp only at h
  cases op <;> simp only [aeff] at h <;> simp only [execOp]
  case move x => exact ⟨_, rows, ro, ρ, h, g, hs.eval x, Ext.refl _ _ _⟩
  case assign x => exact ⟨_, rows, ro, ρ, h, g, hs.eval x, Ext.refl _ _ _⟩
  case pick q x y =>
    have hq := hs.eval q
    cases hqv : oval s q with
    | bool t =>
      rw [hqv] at hq h
      have hqe := rd_bool hq
      cases t with
      | true =>
        simp at h
        have : (do pure (.value (if ← asBool (a.eval q) then a.eval x else a.eval y)) : Sem Next).run P w = .ok (.value (a.eval x)) w := by simp [hqe, asBool]
        rw [this]
        exact ⟨_, rows, ro, ρ, h, g, hs.eval x, Ext.refl _ _ _⟩
      | false =>
        simp at h
        have : (do pure (.value (if ← asBool (a.eval q) then a.eval x else a.eval y)) : Sem Next).run P w = .ok (.value (a.eval y)) w := by simp [hqe, asBool]
        rw [this]
        exact ⟨_, rows, ro, ρ, h, g, hs.eval y, Ext.refl _ _ _⟩
    | _ => rw [hqv] at h; exact h.elim
  case alloc e => obtain ⟨z, hz, hf, hk⟩ := h; exact (runs_aalloc g hz hf hk).done
  case box e v => exact (runs_abox g (hs.eval v) h).done
  case build t parts =>
    rw [parts_eq]
    exact (runs_abuild g (fun p _ => hs.eval p.2) h).done
  case buildSlice t n parts =>
    rw [parts_eq]
    exact (runs_abuildSlice g (fun p _ => hs.eval p.2) h).done
  case load t x => exact (runs_aload g (hs.eval x) h).done
  case store t x v => exact (runs_astore g (hs.eval x) (hs.eval v) h).done
  case nilCheck x =>
    have hx := hs.eval x
    generalize a.eval x = u at hx ⊢
    cases hxv : oval s x with
    | ref id off =>
      rw [hxv] at hx h
      have hx' := hx
      cases hx with
      | ref => simp only [Sem.run_pure, Done]; exact ⟨_, rows, ro, ρ, h, g, hx', Ext.refl _ _ _⟩
    | rptr cs =>
      rw [hxv] at hx h
      have hx' := hx
      obtain ⟨b, o, e, -, -⟩ := rd_rptr hx
      rw [e] at hx' ⊢
      simp only [Sem.run_pure, Done]
      exact ⟨_, rows, ro, ρ, h, g, hx', Ext.refl _ _ _⟩
    | fn f cap =>
      rw [hxv] at hx h
      cases f with
      | func f =>
        have hx' := hx
        cases hx with
        | fn => simp only [Sem.run_pure, Done]; exact ⟨_, rows, ro, ρ, h, g, hx', Ext.refl _ _ _⟩
      | _ => exact h.elim
    | _ => rw [hxv] at h; exact h.elim
  case binOp op xt x y yt => exact (runs_abin g (hs.eval x) (hs.eval y) h).done
  case unOp op t x => exact (runs_aun g (hs.eval x) h).done
  case convert sr d x => exact (runs_aconv g (hs.eval x) h).done
  case makeFunc fn first cap =>
    obtain ⟨rfl, h⟩ := h
    refine ⟨_, rows, ro, ρ, h, g, .fn (by simp) (by simp) fun i u x hu hx => ?_, Ext.refl _ _ _⟩
    have := rds_map hs cap.toList
    exact this.2 i u x (by simpa using hu) hx
  case makeInterface t x =>
    obtain ⟨hi, h⟩ := h
    refine Runs.done (Runs.same g ?_ (.iface (hs.eval x)) h)
    unfold uiface at hi
    split at hi
    · simp at hi
    · rename_i d hd hu
      simp only [Instr.makeInterface, Sem.run_bind, run_underlying hu, Result.andThen_ok]
      rfl
    · simp at hi
  case makeSlice t l q => exact (runs_amakeSlice g (hs.eval l) (hs.eval q) h).done
  case slice t x lo hi mx => exact (runs_aslice g (hs.eval x) (ord_map hs lo) (ord_map hs hi) (ord_map hs mx) h).done
  case fieldAddr t x f => exact (runs_afieldAddr g (hs.eval x) h).done
  case field t x f => exact (runs_afield g (hs.eval x) h).done
  case indexAddr t x i => exact (runs_aindexAddr g (hs.eval x) (hs.eval i) h).done
  case index t x i => exact (runs_aindex g (hs.eval x) (hs.eval i) h).done
  case extract t i =>
    have ht := hs.eval t
    cases htv : oval s t with
    | tup vs =>
      rw [htv] at ht h
      obtain ⟨v, hv, hk⟩ := h
      obtain ⟨us, e, hus⟩ := rd_tup ht
      obtain ⟨u, hu, hr⟩ := hus.get hv
      have hu' : us[i]? = some u := by simpa using hu
      exact Runs.done (Runs.same g (by simp [e, Instr.extract, hu']) hr hk)
    | _ => rw [htv] at h; exact h.elim
  case call q =>
    obtain ⟨callee, args, ts⟩ := q
    cases callee with
    | builtin b => exact done_builtin hs g h
    | value f => exact done_call hs g h
    | invoke r m => exact h.elim

end
end Go.VS
