/-
  VALUE SEMANTICS, 13: code: regions without a draw, sequences, tests, blocks, loops; functions.
  Conditions: none; over any program.
-/
import Derived.Test.YtllehihgfbkgpaaVs12
set_option linter.unusedSimpArgs false
set_option linter.unusedVariables false
namespace Go.VS

abbrev KS := List V → List Row → Prop

def Conc (c : Ctx) (s : List V) (rows : List Row) (a : Act) (w : World) : Prop := ∃ ro ρ, Good c rows w ro ρ ∧ Slots w ro ρ a s

def lift (c : Ctx) (Q : Exit → KS) (e : Exit) (a : Act) (w : World) : Prop := ∃ s rows, Q e s rows ∧ Conc c s rows a w

/-- From every state of the machine that reads as (s, rows), the code ends as Q says. n0: how many rows the call was handed. -/
def AWp (P : Program) (n0 : Nat) (code : Code) (Q : Exit → KS) (s : List V) (rows : List Row) : Prop :=
  ∀ c a w, c.ρ.length = n0 → Conc c s rows a w → code.wp P (lift c Q) a w

def athen (K : KS) (Q : Exit → KS) : Exit → KS
  | .normal => K
  | e => Q e

def ablock (id : Nat) (Q : Exit → KS) : Exit → KS
  | .exit j => if j = id then Q .normal else Q (.exit j)
  | e => Q e

section
variable {P : Program} {n0 : Nat} {Q : Exit → KS} {s : List V} {rows : List Row}

theorem awp_mono {code : Code} {Q' : Exit → KS} (h : AWp P n0 code Q s rows) (hq : ∀ e s rows, Q e s rows → Q' e s rows) : AWp P n0 code Q' s rows :=
  fun c a w hn hc => wp_mono (h c a w hn hc) fun e a w ⟨s, rows, hQ, hc⟩ => ⟨s, rows, hq e s rows hQ, hc⟩

theorem awp_skip (h : Q .normal s rows) : AWp P n0 .skip Q s rows := fun c a w _ hc => wp_skip ⟨s, rows, h, hc⟩
theorem awp_label {l : Nat} (h : Q .normal s rows) : AWp P n0 (.label l) Q s rows := fun c a w _ hc => wp_label ⟨s, rows, h, hc⟩
theorem awp_exit {id : Nat} (h : Q (.exit id) s rows) : AWp P n0 (.exit id) Q s rows := fun c a w _ hc => wp_exit ⟨s, rows, h, hc⟩
theorem awp_ret (h : Q .ret s rows) : AWp P n0 .ret Q s rows := fun c a w _ hc => wp_ret ⟨s, rows, h, hc⟩

theorem awp_seq {x y : Code} (h : ∀ K : KS, (∀ s rows, AWp P n0 y Q s rows → K s rows) → AWp P n0 x (athen K Q) s rows) : AWp P n0 (.seq x y) Q s rows := by
  intro c a w hn hc
  refine wp_seq (wp_mono (h (AWp P n0 y Q) (fun _ _ h => h) c a w hn hc) ?_)
  rintro e a' w' ⟨s', rows', hQ, hc'⟩
  cases e with
  | normal => exact hQ c a' w' hn hc'
  | exit id => exact ⟨s', rows', hQ, hc'⟩
  | goto l => exact ⟨s', rows', hQ, hc'⟩
  | ret => exact ⟨s', rows', hQ, hc'⟩
  | panic ch => exact ⟨s', rows', hQ, hc'⟩
  | outgrown => exact ⟨s', rows', hQ, hc'⟩

theorem awp_cond {x : Operand} {y z : Code} {t : Bool} (hx : oval s x = .bool t) (ht : t = true → AWp P n0 y Q s rows) (hf : t = false → AWp P n0 z Q s rows) : AWp P n0 (.cond x y z) Q s rows := by
  intro c a w hn hc
  obtain ⟨ro, ρ, g, hs⟩ := hc
  have he := hs.eval x
  rw [hx] at he
  exact wp_cond_split (rd_bool he) (fun h => ht h c a w hn ⟨ro, ρ, g, hs⟩) (fun h => hf h c a w hn ⟨ro, ρ, g, hs⟩)

theorem awp_block {id : Nat} {x : Code} (h : AWp P n0 x (ablock id Q) s rows) : AWp P n0 (.block id x) Q s rows := by
  intro c a w hn hc
  refine wp_block (wp_mono (h c a w hn hc) ?_)
  rintro e a' w' ⟨s', rows', hQ, hc'⟩
  cases e with
  | exit j =>
    simp only [ablock] at hQ
    simp only [Exit.inBlock]
    split
    · rename_i h; rw [if_pos h] at hQ; exact ⟨s', rows', hQ, hc'⟩
    · rename_i h; rw [if_neg h] at hQ; exact ⟨s', rows', hQ, hc'⟩
  | normal => exact ⟨s', rows', hQ, hc'⟩
  | goto l => exact ⟨s', rows', hQ, hc'⟩
  | ret => exact ⟨s', rows', hQ, hc'⟩
  | panic ch => exact ⟨s', rows', hQ, hc'⟩
  | outgrown => exact ⟨s', rows', hQ, hc'⟩

/-! ### Forgetting, and giving rows new numbers -/

def Le (n0 : Nat) (s : List V) (rows : List Row) (s' : List V) (rows' : List Row) : Prop :=
  ∃ m : List (Option Nat), Rens false m s' s ∧ RowsRen m rows' rows ∧ ∀ j, j < n0 → m[j]? = some (some j)

theorem Good.le {c : Ctx} {w : World} {ro : Nat → Prop} {ρ : Rho} {rows' : List Row} {m : List (Option Nat)} (g : Good c rows w ro ρ) (hm : RowsRen m rows' rows) (hn : ∀ j, j < c.ρ.length → m[j]? = some (some j)) :
    Good c rows' w ro (rhoRen m rows' ρ) := by
  obtain ⟨f1, f2⟩ := hm.fwd g
  refine g.ren hm g.os g.tape g.output g.size g.old g.roNew (fun j x hj => ?_) ⟨g.ext.keep, g.ext.heap, fun id y hy hr => ?_⟩
  · obtain ⟨i, h1, h2⟩ := rhoRen_on hj
    exact (g.ownNew i x h2).1
  · obtain ⟨y1, hy1, hc1⟩ := g.ext.own id y hy hr
    have hn1 : y1 ≠ .resv := by rcases hc1 with rfl | rfl <;> first | exact hr | exact (fun h => by cases h)
    obtain ⟨y2, hy2, hc2⟩ := f1 id id y1 (hn id (List.getElem?_eq_some_iff.1 hy).1) hy1 hn1
    refine ⟨y2, hy2, ?_⟩
    rcases hc2 with rfl | rfl
    · exact .inl rfl
    · exact hc1

theorem Conc.le {c : Ctx} {a : Act} {w : World} {s' : List V} {rows' : List Row} (h : Conc c s rows a w) (hl : Le c.ρ.length s rows s' rows') : Conc c s' rows' a w := by
  obtain ⟨ro, ρ, g, hs⟩ := h
  obtain ⟨m, h1, h2, h3⟩ := hl
  obtain ⟨f1, f2⟩ := h2.fwd g
  exact ⟨ro, rhoRen m rows' ρ, g.le h2 h3, ⟨h1.rds f1 f2 hs.rds, hs.nodefer⟩⟩

theorem awp_le {code : Code} {s' : List V} {rows' : List Row} (hl : Le n0 s rows s' rows') (h : AWp P n0 code Q s' rows') : AWp P n0 code Q s rows := by
  intro c a w hn hc
  subst hn
  exact h c a w rfl (hc.le hl)

theorem least_nat {p : Nat → Prop} (h : ∃ n, p n) : ∃ n, p n ∧ ∀ m, p m → n ≤ m := by
  obtain ⟨n, hn⟩ := h
  induction n using Nat.strongRecOn with
  | _ n ih =>
    by_cases hm : ∃ m, m < n ∧ p m
    · obtain ⟨m, h1, h2⟩ := hm
      exact ih m h1 h2
    · exact ⟨n, hn, fun m hp => Nat.le_of_not_lt fun hlt => hm ⟨m, hlt, hp⟩⟩

open Classical in
/-- The least number of a set; 0 where there is none. -/
noncomputable def leastOf (p : Nat → Prop) : Nat := if h : ∃ n, p n then Classical.choose (least_nat h) else 0

theorem leastOf_spec {p : Nat → Prop} (h : ∃ n, p n) : p (leastOf p) ∧ ∀ m, p m → leastOf p ≤ m := by
  unfold leastOf
  rw [dif_pos h]
  exact Classical.choose_spec (least_nat h)

/-- A loop. I: the state at each round's head, by ghost data x; μ falls. -/
theorem awp_loop {α : Type} (I : α → List V × List Row) (μ : α → Nat) (x0 : α) {code : Code} (h0 : Le n0 s rows (I x0).1 (I x0).2)
    (round : ∀ x, AWp P n0 code (athen (fun s' rows' => ∃ x', μ x' < μ x ∧ Le n0 s' rows' (I x').1 (I x').2) Q) (I x).1 (I x).2) : AWp P n0 (.loop code) Q s rows := by
  intro c a w hn hc
  subst hn
  refine wp_loop (Q := lift c Q) (fun a w => ∃ n x, μ x = n ∧ Conc c (I x).1 (I x).2 a w) (fun a w => leastOf fun n => ∃ x, μ x = n ∧ Conc c (I x).1 (I x).2 a w) ⟨_, x0, rfl, hc.le h0⟩ ?_
  intro a w hI
  obtain ⟨⟨x, hx, hcx⟩, -⟩ := leastOf_spec hI
  refine wp_mono (round x c a w rfl hcx) ?_
  rintro e a' w' ⟨s', rows', hQ, hc'⟩
  cases e with
  | normal =>
    obtain ⟨x', hlt, hle⟩ := hQ
    have hI' : ∃ n x, μ x = n ∧ Conc c (I x).1 (I x).2 a' w' := ⟨_, x', rfl, hc'.le hle⟩
    refine ⟨hI', ?_⟩
    have := (leastOf_spec hI').2 (μ x') ⟨x', rfl, hc'.le hle⟩
    omega
  | exit id => exact ⟨s', rows', hQ, hc'⟩
  | goto l => exact ⟨s', rows', hQ, hc'⟩
  | ret => exact ⟨s', rows', hQ, hc'⟩
  | panic ch => exact ⟨s', rows', hQ, hc'⟩
  | outgrown => exact ⟨s', rows', hQ, hc'⟩

/-! ### Regions without a draw -/

def aguard (ops : Array Oper) (g : Option (Nat × Bool)) (s : List V) (yes no : Prop) : Prop :=
  match g with
  | none => yes
  | some (j, want) => match (ops[j]?).bind (·.dst) with
    | some d => (match sget s d with
      | .bool b => if b = want then yes else no
      | _ => False)
    | none => False

def arun (P : Program) (ops : Array Oper) : List Oper → List V → List Row → KS → Prop
  | [], s, rows, K => K s rows
  | o :: os, s, rows, K => aguard ops o.guard s (aeff P false o.op rows.length s rows fun v rows' => arun P ops os (sput s o.dst v) rows' K) (arun P ops os (sput s o.dst .junk) rows K)

theorem wanted_of {c : Ctx} {w : World} {ro : Nat → Prop} {ρ : Rho} {a : Act} {ops : Array Oper} {o : Oper} {yes no : Prop} (hs : Slots w ro ρ a s) (h : aguard ops o.guard s yes no) :
    (Region.wanted o (yielded ops a.tmps) = true ∧ yes) ∨ (Region.wanted o (yielded ops a.tmps) = false ∧ no) := by
  unfold aguard at h
  split at h
  · rename_i hg; exact .inl ⟨by simp [Region.wanted, hg], h⟩
  · rename_i j want hg
    split at h
    · rename_i d hd
      split at h
      · rename_i b hb
        have hlt : d < s.length := by
          rcases Nat.lt_or_ge d s.length with h | h
          · exact h
          · rw [sget_eq, List.getElem?_eq_none h] at hb; simp at hb
        have hsd : s[d]? = some (.bool b) := by
          rw [sget_eq] at hb
          obtain ⟨x, hx⟩ := get_iff hlt
          rw [hx] at hb ⊢
          simpa using hb
        obtain ⟨u, hu, hr⟩ := hs.rds.get hsd
        obtain rfl := rd_bool hr
        have hy : yielded ops a.tmps j = some b := by
          unfold yielded
          rw [hd]
          have : a.tmps[d]? = some (.bool b) := by simpa using hu
          simp [this]
        have hw : Region.wanted o (yielded ops a.tmps) = (some b == some want) := by simp [Region.wanted, hg, hy]
        split at h
        · rename_i e; subst e; exact .inl ⟨by rw [hw]; simp, h⟩
        · rename_i e; exact .inr ⟨by rw [hw]; simpa using e, h⟩
      · exact h.elim
    · exact h.elim

/-- What an operation does, in the model. -/
theorem oper_wp {c : Ctx} {w : World} {ro : Nat → Prop} {ρ : Rho} {a : Act} {o : Oper} {draw : Bool} {id : Nat} {next : Act → World → Prop} {Q' : Exit → Act → World → Prop} {k : KV} (hs : Slots w ro ρ a s) (g : Good c rows w ro ρ)
    (h : aeff P draw o.op id s rows k) (hn : ∀ v w' r rows' ro' ρ', k r rows' → Good c rows' w' ro' ρ' → Slots w' ro' ρ' (a.put o.dst v) (sput s o.dst r) → next (a.put o.dst v) w') : o.wp P a w next Q' := by
  have hd := aeff_sound (o := o) hs g h
  have use : ∀ v w', OpOk c k w ro ρ v w' → next (a.put o.dst v) w' := by
    rintro v w' ⟨r, rows', ro', ρ', h1, h2, h3, h4⟩
    exact hn v w' r rows' ro' ρ' h1 h2 ((hs.ext h4).put h3 o.dst)
  unfold Oper.wp
  generalize (execOp a.eval o).run P w = res at hd
  cases res with
  | halt x w' => exact hd.elim
  | ok n w' =>
    cases n <;> try exact hd.elim
    case value v => exact use v w' hd
    case skip => exact use undef w' hd
    case enter f args =>
      refine Calls.mono hd ?_
      rintro e w'' ⟨v, rfl, hok⟩
      exact use v w'' hok

theorem arun_sound {ops : Array Oper} {K : KS} : ∀ (is : List Nat) (os : List Oper), is.length = os.length → (∀ (t : Nat) i o, is[t]? = some i → os[t]? = some o → ops[i]? = some o) → ∀ (s : List V) (rows : List Row) (c : Ctx) (a : Act) (w : World),
    arun P ops os s rows K → Conc c s rows a w → wpOps P ops (lift c (athen K Q)) is a w
  | [], [], _, _, s, rows, c, a, w, h, hc => ⟨s, rows, h, hc⟩
  | [], _ :: _, hl, _, _, _, _, _, _, _, _ => by simp at hl
  | _ :: _, [], hl, _, _, _, _, _, _, _, _ => by simp at hl
  | i :: is, o :: os, hl, ho, s, rows, c, a, w, h, hc => by
    obtain ⟨ro, ρ, g, hs⟩ := hc
    have hio : ops[i]? = some o := ho 0 i o rfl rfl
    have ih := fun s rows a w (h : arun P ops os s rows K) hc => arun_sound is os (by simpa using hl) (fun t i o h1 h2 => ho (t + 1) i o (by simpa using h1) (by simpa using h2)) s rows c a w h hc
    rw [wpOps_cons]
    unfold wpOp
    simp only [hio]
    simp only [arun] at h
    rcases wanted_of (c := c) hs h with ⟨hw, h⟩ | ⟨hw, h⟩
    · rw [if_pos hw]
      refine .inl (oper_wp (c := c) hs g h ?_)
      intro v w' r rows' ro' ρ' h1 h2 h3
      exact ih _ _ _ _ h1 ⟨ro', ρ', h2, h3⟩
    · rw [if_neg (by simp [hw])]
      exact ih _ _ _ _ h ⟨ro, ρ, g, hs.put .junk o.dst⟩

theorem awp_region {id : Nat} {ops : Array Oper} (h : arun P ops ops.toList s rows (Q .normal)) : AWp P n0 (.region id ops false) Q s rows := by
  intro c a w hn hc
  have := arun_sound (P := P) (Q := Q) (K := Q .normal) (List.range ops.size) ops.toList (by simp) (fun t i o h1 h2 => by
    have hlt := (List.getElem?_eq_some_iff.1 h1).1
    simp at hlt
    rw [List.getElem?_range hlt] at h1
    simp at h1
    subst h1
    simpa using h2) s rows c a w h hc
  refine wp_mono (wp_region this) ?_
  rintro e a' w' ⟨s', rows', hQ, hc'⟩
  cases e <;> exact ⟨s', rows', hQ, hc'⟩

/-! ### Functions -/

def ares1 (P : Program) (s : List V) (rows : List Row) : ResultVar → (V → Prop) → Prop
  | .tmp t, k => k (sget s t)
  | .cell a t, k => aload P t (sget s a) rows fun v _ => k v

def aresL (P : Program) (s : List V) (rows : List Row) : List ResultVar → (List V → Prop) → Prop
  | [], k => k []
  | r :: rs, k => ares1 P s rows r fun v => aresL P s rows rs fun vs => k (v :: vs)

def ares (P : Program) (s : List V) (rows : List Row) (rs : List ResultVar) (k : V → Prop) : Prop :=
  aresL P s rows rs fun vs => match vs with
    | [v] => k v
    | vs => k (.tup vs)

/-- How the model reads a result. -/
def resOf (a : Act) : ResultVar → Sem Value
  | .tmp t => pure (a.tmps.getD t undef)
  | .cell a' t => do loadVar t (← asAddr (a.tmps.getD a' undef))

theorem run_ares1 {c : Ctx} {w : World} {ro : Nat → Prop} {ρ : Rho} {a : Act} (g : Good c rows w ro ρ) (hs : Slots w ro ρ a s) {r : ResultVar} {k : V → Prop} (h : ares1 P s rows r k) :
    ∃ u v, (resOf a r).run P w = .ok u w ∧ Rd w ro ρ u v ∧ k v := by
  cases r with
  | tmp t => exact ⟨_, _, rfl, hs.eval (.tmp t), h⟩
  | cell a' t =>
    have hx := hs.eval (.tmp a')
    simp only [oval] at hx
    have hrun : ∀ b, (Instr.loadAt t (a.eval (.tmp a'))).run P w = .ok b w → (do loadVar t (← asAddr (a.tmps.getD a' undef)) : Sem Value).run P w = .ok b w := by
      intro b hb
      show (do loadVar t (← asAddr (a.eval (.tmp a'))) : Sem Value).run P w = .ok b w
      cases he : a.eval (.tmp a') with
      | pointer p =>
        cases p with
        | some p => rw [he] at hb; simpa [Instr.loadAt, Instr.sureAddr, asAddr] using hb
        | none => rw [he] at hb; simp [Instr.loadAt, Instr.sureAddr] at hb
      | _ => rw [he] at hb; simp [Instr.loadAt, Instr.sureAddr] at hb
    simp only [ares1] at h
    -- the load leaves the world as it is
    have key : ∃ u v, (Instr.loadAt t (a.eval (.tmp a'))).run P w = .ok u w ∧ Rd w ro ρ u v ∧ k v := by
      have cells : ∀ {b o off : Nat} {cs : List V}, CellsAt w ro ρ b o cs → acells P t cs off k → ∃ u v, (loadVar t ⟨b, o + off, none⟩).run P w = .ok u w ∧ Rd w ro ρ u v ∧ k v := by
        intro b o off cs hc h
        unfold acells at h
        split at h
        · rename_i ha
          obtain ⟨n, hn, hle, hk⟩ := h
          obtain ⟨us, hl, hus⟩ := run_loadCells_at (P := P) ((hc.drop off).take n)
          have hlen : ((cs.drop off).take n).length = n := by simp; omega
          rw [hlen] at hl
          exact ⟨.agg us.toArray, _, by simp [loadVar, run_isAgg' ha, run_size hn, hl], Rds.agg (by simpa using hus), hk⟩
        · rename_i ha
          obtain ⟨v, hv, hk⟩ := h
          obtain ⟨u, hu, hr⟩ := hc off v hv
          exact ⟨u, v, by simp [loadVar, run_isAgg' ha, hu], hr, hk⟩
        · exact h.elim
      generalize sget s a' = x at h hx
      cases x with
      | ref id off =>
        obtain ⟨cs, hl, hne, h⟩ := h
        obtain ⟨x, hx', hat, e⟩ := rd_ref g hx hl
        rw [e]
        obtain ⟨u, v, q1, q2⟩ := cells hat.cellsAt h
        exact ⟨u, v, by simpa [Instr.loadAt, Instr.sureAddr] using q1, q2⟩
      | rptr cs =>
        obtain ⟨b, o, e, hro, hat⟩ := rd_rptr hx
        rw [e]
        obtain ⟨u, v, q1, q2⟩ := cells (b := b) (o := o) (off := 0) (fun i v hv => by obtain ⟨u, hu, hr⟩ := hat i v hv; exact ⟨u, hu, hr.ofNil⟩) h
        exact ⟨u, v, by simpa [Instr.loadAt, Instr.sureAddr] using q1, q2⟩
      | _ => exact False.elim h
    obtain ⟨u, v, q1, q2⟩ := key
    exact ⟨u, v, hrun u q1, q2⟩

theorem run_aresL {c : Ctx} {w : World} {ro : Nat → Prop} {ρ : Rho} {a : Act} (g : Good c rows w ro ρ) (hs : Slots w ro ρ a s) : ∀ {rs : List ResultVar} {k : List V → Prop}, aresL P s rows rs k →
    ∃ us vs, (rs.mapM (resOf a)).run P w = .ok us w ∧ Rds w ro ρ us vs ∧ k vs
  | [], k, h => ⟨[], [], rfl, ⟨rfl, fun i u x h => by simp at h⟩, h⟩
  | r :: rs, k, h => by
    obtain ⟨u, v, h1, h2, h3⟩ := run_ares1 g hs h
    obtain ⟨us, vs, q1, q2, q3⟩ := run_aresL g hs h3
    refine ⟨u :: us, v :: vs, ?_, ⟨by simp [q2.1], fun i b x hb hx => ?_⟩, q3⟩
    · rw [List.mapM_cons]
      simp only [Sem.run_bind]
      rw [h1]
      simp only [Result.andThen_ok, Sem.run_bind]
      rw [q1]
      rfl
    · cases i with
      | zero => simp at hb hx; subst hb; subst hx; exact h2
      | succ i => exact q2.2 i b x (by simpa using hb) (by simpa using hx)

theorem run_ares {c : Ctx} {w : World} {ro : Nat → Prop} {ρ : Rho} {a : Act} {fn : Func} (g : Good c rows w ro ρ) (hs : Slots w ro ρ a s) {k : V → Prop} (h : ares P s rows fn.results.toList k) :
    ∃ u v, (results fn a.tmps).run P w = .ok u w ∧ Rd w ro ρ u v ∧ k v := by
  obtain ⟨us, vs, h1, h2, h3⟩ := run_aresL g hs h
  have hm : (fn.results.mapM (resOf a)).run P w = .ok us.toArray w := by
    rw [Array.mapM_eq_mapM_toList]
    simp only [Sem.run_map, h1, Result.andThen_ok]
  have hres : (results fn a.tmps).run P w = .ok (if h : us.toArray.size = 1 then us.toArray[0] else .tuple us.toArray) w := by
    show (do let vs ← fn.results.mapM (resOf a); pure (if h : vs.size = 1 then vs[0] else .tuple vs) : Sem Value).run P w = _
    simp only [Sem.run_bind]
    rw [hm]
    rfl
  match us, vs, h2, h3, hres with
  | [u], [v], h2, h3, hres => exact ⟨u, v, by simpa using hres, h2.2 0 u v rfl rfl, h3⟩
  | [], [], h2, h3, hres => exact ⟨_, _, hres, Rds.tup (by simpa using h2), h3⟩
  | u :: u' :: us, v :: v' :: vs, h2, h3, hres => exact ⟨_, _, by simpa using hres, Rds.tup (by simpa using h2), h3⟩
  | [], _ :: _, h2, _, _ => simp [Rds] at h2
  | [_], [], h2, _, _ => simp [Rds] at h2
  | [_], _ :: _ :: _, h2, _, _ => simp [Rds] at h2
  | _ :: _ :: _, [], h2, _, _ => simp [Rds] at h2
  | _ :: _ :: _, [_], h2, _, _ => simp [Rds] at h2

/-- What a function's code must end with. -/
def aend (P : Program) (rs : List ResultVar) (R : V → List Row → Prop) : Exit → KS
  | .normal, s, rows | .ret, s, rows => ares P s rows rs fun r => R r rows
  | _, _, _ => False

theorem acalls_body {f : FuncId} {fn : Func} {code : Code} {args : List V} {R : V → List Row → Prop} (hf : P.funcs[f]? = some fn) (hb : fn.body = some code) (he : Enters P f)
    (h : AWp P rows.length code (aend P fn.results.toList R) (args ++ List.replicate (fn.ntmps - args.length) .junk) rows) : ACalls P f args rows R := by
  refine ⟨he, fun w ro ρ vs g ha => ?_⟩
  have hsz : vs.size = args.length := by simpa using ha.1
  have hslots : Slots w ro ρ { tmps := vs ++ Array.replicate (fn.ntmps - vs.size) undef, defers := [] } (args ++ List.replicate (fn.ntmps - args.length) .junk) := by
    refine ⟨?_, rfl⟩
    show Rds w ro ρ (vs ++ Array.replicate (fn.ntmps - vs.size) undef).toList _
    rw [Array.toList_append, Array.toList_replicate, hsz]
    exact ha.append ⟨by simp, fun i u x hu hx => by
      rw [List.getElem?_replicate] at hx
      split at hx
      · simp at hx; subst hx; exact .junk
      · simp at hx⟩
  refine calls_of_wp hf hb (wp_mono (h ⟨w, ro, ρ⟩ _ w g.len ⟨ro, ρ, g, hslots⟩) ?_)
  rintro e a' w' ⟨s', rows', hQ, ro', ρ', g', hs'⟩
  cases e with
  | normal =>
    obtain ⟨u, v, h1, h2, h3⟩ := run_ares g' hs' hQ
    exact ⟨hs'.nodefer, u, h1, u, v, rows', ro', ρ', rfl, h3, g', h2⟩
  | ret =>
    obtain ⟨u, v, h1, h2, h3⟩ := run_ares g' hs' hQ
    exact ⟨hs'.nodefer, u, h1, u, v, rows', ro', ρ', rfl, h3, g', h2⟩
  | exit id => exact hQ.elim
  | goto l => exact hQ.elim
  | panic ch => exact hQ.elim
  | outgrown => exact hQ.elim

/-- All rows of the call become read only as it ends. -/
theorem PCall.view {f : FuncId} {args : List V} {r : V} (hp : r.Pure) (h : ACalls P f args [] fun r' rows' => View rows' r' r) : PCall P f args r := by
  refine ⟨hp, h.1, fun w ro ρ vs g ha => (h.2 w ro ρ vs g ha).mono ?_⟩
  rintro e w' ⟨v, r', rows', ro', ρ', rfl, hv, g', hr⟩
  have hρ : ρ = [] := List.eq_nil_of_length_eq_zero g.len
  subst hρ
  refine ⟨v, r, [], roAll ro' ρ', [], rfl, rfl, ?_, hv.rd g' hr []⟩
  have hext : Ext w' ro' ρ' w' (roAll ro' ρ') ρ' := ⟨fun _ h => .inl h, fun _ _ => rfl, fun id y h _ => ⟨y, h, .inr rfl⟩⟩
  have he := g'.ext.trans hext
  refine ⟨g'.os, g'.tape, g'.output, g'.size, g'.old, fun b hb => ?_, fun b hb => ?_, rfl, fun id x h => by simp at h, fun i j x y h => by simp at h, fun id r h => by simp at h, ⟨he.keep, he.heap, fun id y h => by simp at h⟩⟩
  · rcases hb with hb | ⟨id, x, h, rfl⟩
    · exact g'.roLt b hb
    · exact g'.ownLt h
  · rcases hb with hb | ⟨id, x, h, rfl⟩
    · exact g'.roNew b hb
    · exact .inr (g'.ownNew id x h).1

/-- A function that only reads, by its body. -/
theorem pcall_body {f : FuncId} {fn : Func} {code : Code} {args : List V} {r : V} (hf : P.funcs[f]? = some fn) (hb : fn.body = some code) (he : Enters P f) (hp : r.Pure)
    (h : AWp P 0 code (aend P fn.results.toList fun r' rows' => View rows' r' r) (args ++ List.replicate (fn.ntmps - args.length) .junk) []) : PCall P f args r :=
  .view hp (acalls_body hf hb he h)

end
end Go.VS
