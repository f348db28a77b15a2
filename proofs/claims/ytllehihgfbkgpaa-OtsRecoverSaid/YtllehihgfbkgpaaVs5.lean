/-
  VALUE SEMANTICS, 5: reading memory: loads, addresses, slices, lengths.
  Conditions: none; over any program.
-/
import Derived.Test.YtllehihgfbkgpaaVs4
set_option linter.unusedSimpArgs false
set_option linter.unusedVariables false
namespace Go.VS

def CellsAt (w : World) (ro : Nat → Prop) (ρ : Rho) (b o : Nat) (cs : List V) : Prop :=
  ∀ (i : Nat) v, cs[i]? = some v → ∃ u, w.cell? ⟨b, o + i, none⟩ = some u ∧ Rd w ro ρ u v

section
variable {P : Program} {c : Ctx} {rows : List Row} {w : World} {ro : Nat → Prop} {ρ : Rho} {k : KV}

theorem RowAt.cellsAt {x : Own} {cs : List V} (h : RowAt w ro ρ x cs) : CellsAt w ro ρ x.b x.o cs := by
  obtain ⟨C, e, fr, h1, h2, h3, h4, h5⟩ := h
  intro i v hv
  obtain ⟨u, hu, hr⟩ := h5 i v hv
  exact ⟨u, by simp [World.cell?, h1, hu], hr⟩

theorem ext_nil (w : World) (ro : Nat → Prop) (ρ : Rho) : Ext w ro [] w ro ρ := ⟨fun _ h => h, fun _ _ => rfl, fun id y h => by simp at h⟩

theorem Rd.ofNil {u : Value} {x : V} (h : Rd w ro [] u x) : Rd w ro ρ u x := h.ext (ext_nil w ro ρ)

theorem CellsAt.drop {b o : Nat} {cs : List V} (h : CellsAt w ro ρ b o cs) (n : Nat) : CellsAt w ro ρ b (o + n) (cs.drop n) := by
  intro i v hv
  rw [List.getElem?_drop] at hv
  obtain ⟨u, hu, hr⟩ := h (n + i) v hv
  exact ⟨u, by rwa [show o + (n + i) = o + n + i by omega] at hu, hr⟩

theorem CellsAt.take {b o : Nat} {cs : List V} (h : CellsAt w ro ρ b o cs) (n : Nat) : CellsAt w ro ρ b o (cs.take n) := by
  intro i v hv
  rw [List.getElem?_take] at hv
  split at hv
  · exact h i v hv
  · simp at hv

/-- The memory of a read-only pointer. -/
theorem rd_rptr {u : Value} {cs : List V} (h : Rd w ro ρ u (.rptr cs)) : ∃ b o, u = .pointer (some ⟨b, o, none⟩) ∧ ro b ∧ CellsAt w ro [] b o cs := by
  cases h with
  | @rptr _ a us _ h1 h2 h3 h4 h5 =>
    obtain ⟨b, o, s⟩ := a
    simp at h1
    subst h1
    refine ⟨b, o, rfl, h2, fun i v hv => ?_⟩
    have hlt : i < us.length := by rw [h3]; exact (List.getElem?_eq_some_iff.1 hv).1
    exact ⟨us[i], h4 i _ (by simp [hlt]), h5 i _ v (by simp [hlt]) hv⟩

theorem CellsAt.list {b o : Nat} {cs : List V} (h : CellsAt w ro ρ b o cs) : ∃ us : List Value, us.length = cs.length ∧ (∀ (i : Nat) u, us[i]? = some u → w.cell? ⟨b, o + i, none⟩ = some u) ∧
    ∀ (i : Nat) u x, us[i]? = some u → cs[i]? = some x → Rd w ro ρ u x := by
  induction cs generalizing o with
  | nil => exact ⟨[], rfl, fun i u h => by simp at h, fun i u x h => by simp at h⟩
  | cons v cs ih =>
    obtain ⟨u, hu, hr⟩ := h 0 v rfl
    obtain ⟨us, h1, h2, h3⟩ := ih (o := o + 1) (fun i x hx => by
      obtain ⟨y, hy, hr⟩ := h (i + 1) x (by simpa using hx)
      exact ⟨y, by rwa [show o + (i + 1) = o + 1 + i by omega] at hy, hr⟩)
    refine ⟨u :: us, by simp [h1], fun i y hy => ?_, fun i y x hy hx => ?_⟩
    · cases i with
      | zero => simp at hy; subst hy; exact hu
      | succ i => have := h2 i y (by simpa using hy); rwa [show o + 1 + i = o + (i + 1) by omega] at this
    · cases i with
      | zero => simp at hy hx; subst hy; subst hx; exact hr
      | succ i => exact h3 i y x (by simpa using hy) (by simpa using hx)

theorem CellsAt.rptr {b o : Nat} {cs : List V} (h : CellsAt w ro [] b o cs) (hro : ro b) : Rd w ro ρ (.pointer (some ⟨b, o, none⟩)) (.rptr cs) := by
  obtain ⟨us, h1, h2, h3⟩ := h.list
  exact .rptr rfl hro h1 h2 h3

theorem CellsAt.sl {b o n cap : Nat} {cs : List V} (h : CellsAt w ro [] b o cs) (hro : ro b) (hn : n ≤ cap) : Rd w ro ρ (.slice (some ⟨b, o, none⟩) n cap) (.sl n cs) := by
  obtain ⟨us, h1, h2, h3⟩ := h.list
  exact .sl rfl hro hn h1 h2 h3

theorem rd_sl {u : Value} {n : Nat} {cs : List V} (h : Rd w ro ρ u (.sl n cs)) : (u = .slice none 0 0 ∧ n = 0 ∧ cs = []) ∨
    (∃ b o cap, u = .slice (some ⟨b, o, none⟩) n cap ∧ ro b ∧ n ≤ cap ∧ CellsAt w ro [] b o cs) ∨ ∃ a cap, u = .slice (some a) 0 cap ∧ n = 0 ∧ cs = [] := by
  cases h with
  | sl0 => exact .inl ⟨rfl, rfl, rfl⟩
  | @slz _ a cap => exact .inr (.inr ⟨a, cap, rfl, rfl, rfl⟩)
  | @sl _ a _ cap us _ h1 h2 h3 h4 h5 h6 =>
    obtain ⟨b, o, s⟩ := a
    simp at h1
    subst h1
    refine .inr (.inl ⟨b, o, cap, rfl, h2, h3, fun i v hv => ?_⟩)
    have hlt : i < us.length := by rw [h4]; exact (List.getElem?_eq_some_iff.1 hv).1
    exact ⟨us[i], h5 i _ (by simp [hlt]), h6 i _ v (by simp [hlt]) hv⟩

/-- A pointer to a row that is there. -/
theorem rd_ref {u : Value} {id off : Nat} {cs : List V} (g : Good c rows w ro ρ) (h : Rd w ro ρ u (.ref id off)) (hl : rows[id]? = some (.live cs)) :
    ∃ x, ρ[id]? = some (.on x) ∧ RowAt w ro ρ x cs ∧ u = .pointer (some ⟨x.b, x.o + off, none⟩) := by
  obtain ⟨y, hy, hn, hd, hat, hv⟩ := g.live hl
  cases h with
  | ref h1 h2 h3 h4 =>
    rw [hy] at h1
    simp at h1
    subst h1
    cases y with
    | resv => exact absurd rfl hn
    | dead => exact absurd rfl hd
    | virt => exact absurd rfl h3
    | on x => exact ⟨x, hy, hat x rfl, by rw [h4 x rfl]⟩

/-- A slice of a row that is there. -/
theorem rd_osl {u : Value} {id off n sz : Nat} {cs : List V} (g : Good c rows w ro ρ) (h : Rd w ro ρ u (.osl id off n sz)) (hl : rows[id]? = some (.live cs)) :
    (u = .slice none 0 0 ∧ n = 0 ∧ cs = [] ∧ ρ[id]? = some .virt) ∨
    ∃ x o cap, ρ[id]? = some (.on x) ∧ RowAt w ro ρ x cs ∧ u = .slice (some ⟨x.b, o, none⟩) n cap ∧ (cap = 0 ∨ o = x.o + off) ∧ n ≤ cap ∧ o + cap * sz ≤ x.m := by
  obtain ⟨y, hy, hn, hd, hat, hv⟩ := g.live hl
  cases h with
  | osl0 h1 h2 h3 =>
    rw [hy] at h1
    simp at h1
    subst h1
    cases y with
    | resv => exact absurd rfl hn
    | dead => exact absurd rfl hd
    | virt => exact .inl ⟨rfl, rfl, hv rfl, hy⟩
    | on x => exact absurd rfl (h3 x)
  | @osl _ _ _ _ _ a cap _ h1 h2 h3 hle h4 =>
    rw [hy] at h1
    simp at h1
    subst h1
    cases y with
    | resv => exact absurd rfl hn
    | dead => exact absurd rfl hd
    | virt => exact absurd rfl h3
    | on x =>
      obtain ⟨e1, e2, e3, e4, e5⟩ := h4 x rfl
      obtain ⟨b, o, s⟩ := a
      simp at e1 e2
      subst e1; subst e2
      exact .inr ⟨x, o, cap, hy, hat x rfl, rfl, e3, e4, e5⟩

theorem add_eq (b o i : Nat) : (⟨b, o, none⟩ : Addr).add i = ⟨b, o + i, none⟩ := by
  unfold Addr.add
  split
  · rename_i h; subst h; rfl
  · rfl

theorem run_loadCells_at' {b o : Nat} {cs : List V} (h : CellsAt w ro ρ b o cs) : ∃ us : List Value, (∀ w', w'.heap = w.heap → (loadCells ⟨b, o, none⟩ cs.length).run P w' = .ok us.toArray w') ∧ Rds w ro ρ us cs := by
  obtain ⟨us, h1, h2, h3⟩ := h.list
  refine ⟨us, fun w' hw => ?_, h1, h3⟩
  rw [← h1]
  exact run_loadCells_list w' _ us fun j v hv => by rw [add_eq]; have := h2 j v hv; simpa [World.cell?, hw] using this

theorem run_loadCells_at {b o : Nat} {cs : List V} (h : CellsAt w ro ρ b o cs) : ∃ us : List Value, (loadCells ⟨b, o, none⟩ cs.length).run P w = .ok us.toArray w ∧ Rds w ro ρ us cs := by
  obtain ⟨us, h1, h2⟩ := run_loadCells_at' (P := P) h
  exact ⟨us, h1 w rfl, h2⟩

theorem runs_acells {t : TypeId} {b o off : Nat} {cs : List V} (g : Good c rows w ro ρ) (hc : CellsAt w ro ρ b o cs) (h : acells P t cs off fun v => k v rows) :
    Runs P (loadVar t ⟨b, o + off, none⟩) c k w ro ρ := by
  unfold acells at h
  split at h
  · rename_i ha
    obtain ⟨n, hn, hle, hk⟩ := h
    obtain ⟨us, hl, hus⟩ := run_loadCells_at (P := P) ((hc.drop off).take n)
    have hlen : ((cs.drop off).take n).length = n := by simp; omega
    rw [hlen] at hl
    exact .same (v := .agg us.toArray) g (by simp [loadVar, run_isAgg' ha, run_size hn, hl]) (Rds.agg (by simpa using hus)) hk
  · rename_i ha
    obtain ⟨v, hv, hk⟩ := h
    obtain ⟨u, hu, hr⟩ := hc off v hv
    exact .same g (by simp [loadVar, run_isAgg' ha, hu]) hr hk
  · exact h.elim

theorem runs_aload {t : TypeId} {x : V} {u : Value} (g : Good c rows w ro ρ) (hx : Rd w ro ρ u x) (h : aload P t x rows k) : Runs P (Instr.loadAt t u) c k w ro ρ := by
  cases x with
  | ref id off =>
    obtain ⟨cs, hl, hne, h⟩ := h
    obtain ⟨x, hx', hat, rfl⟩ := rd_ref g hx hl
    have := runs_acells g hat.cellsAt h
    simpa [Instr.loadAt, Instr.sureAddr, Runs] using this
  | rptr cs =>
    obtain ⟨b, o, rfl, hro, hat⟩ := rd_rptr hx
    have := runs_acells (b := b) (o := o) g (fun i v hv => by obtain ⟨u, hu, hr⟩ := hat i v hv; exact ⟨u, hu, hr.ofNil⟩) h
    simpa [Instr.loadAt, Instr.sureAddr, Runs] using this
  | _ => exact False.elim h

theorem runs_afieldAddr {t : TypeId} {x : V} {u : Value} {f : Nat} (g : Good c rows w ro ρ) (hx : Rd w ro ρ u x) (h : afieldAddr P t x f rows k) : Runs P (Instr.fieldAt t u f) c k w ro ρ := by
  obtain ⟨ft, o, n, hf, hs, h⟩ := h
  unfold ufield at hf
  split at hf
  · rename_i fs hu
    cases hd : fs[f]? with
    | none => simp [hd] at hf
    | some d =>
      simp [hd] at hf
      obtain ⟨rfl, rfl⟩ := hf
      have hrun : ∀ a : Addr, (Instr.fieldAt t (.pointer (some a)) f).run P w = .ok (.pointer (some (a.add d.offset))) w := by
        intro a
        simp [Instr.fieldAt, run_underlying hu, hd, Instr.sureAddr, fieldPlace, run_size hs]
      cases x with
      | ref id off =>
        cases hx with
        | @ref _ _ _ a y h1 h2 h3 h4 =>
          refine .same g (hrun a) (.ref h1 h2 h3 fun x hx => ?_) h
          rw [h4 x hx, add_eq, Nat.add_assoc]
      | rptr cs =>
        obtain ⟨b, o, rfl, hro, hat⟩ := rd_rptr hx
        refine .same g (hrun _) ?_ h
        rw [add_eq]
        exact (hat.drop d.offset).rptr hro
      | _ => exact False.elim h
  · simp at hf

theorem runs_aindexAddr {t : TypeId} {x ix : V} {u i : Value} (g : Good c rows w ro ρ) (hx : Rd w ro ρ u x) (hi : Rd w ro ρ i ix) (h : aindexAddr P t x ix rows k) : Runs P (Instr.indexAt t u i) c k w ro ρ := by
  cases ix with
  | int kd n =>
    obtain rfl := rd_int hi
    cases x with
    | sl m cs =>
      obtain ⟨e, sz, hu, hs, h0, h1, hk⟩ := h
      rcases rd_sl hx with ⟨-, rfl, -⟩ | ⟨b, o, cap, rfl, hro, hcap, hat⟩ | ⟨a, cap, -, rfl, -⟩
      · omega
      rotate_left
      · omega
      · refine .same g (by simp [Instr.indexAt, asIntOf, run_underlying (uslice_under hu), h0, h1, run_size hs, add_eq]; rfl) ?_ hk
        exact (hat.drop _).rptr hro
    | osl id off m sz =>
      obtain ⟨e, hu, hs, h0, h1, hk⟩ := h
      cases hx with
      | osl0 => omega
      | @osl _ _ _ _ _ a cap y q1 q2 q3 qle q4 =>
        refine .same g (by simp [Instr.indexAt, asIntOf, run_underlying (uslice_under hu), h0, h1, run_size hs]; rfl) (.ref q1 q2 q3 fun x hx => ?_) hk
        obtain ⟨e1, e2, e3, e4, e5⟩ := q4 x hx
        obtain ⟨b, o, s⟩ := a
        simp at e1 e2 e3
        subst e1; subst e2
        rw [add_eq]
        congr 1
        omega
    | ref id off =>
      obtain ⟨m, e, sz, hu, hs, h0, h1, hk⟩ := h
      cases hx with
      | @ref _ _ _ a y q1 q2 q3 q4 =>
        refine .same g (by simp [Instr.indexAt, asIntOf, Instr.sureAddr, run_underlying (uarr_under hu), h0, h1, run_size hs]; rfl) (.ref q1 q2 q3 fun x hx => ?_) hk
        rw [q4 x hx, add_eq, Nat.add_assoc]
    | rptr cs =>
      obtain ⟨m, e, sz, hu, hs, h0, h1, hk⟩ := h
      obtain ⟨b, o, rfl, hro, hat⟩ := rd_rptr hx
      refine .same g (by simp [Instr.indexAt, asIntOf, Instr.sureAddr, run_underlying (uarr_under hu), h0, h1, run_size hs, add_eq]; rfl) ?_ hk
      exact (hat.drop _).rptr hro
    | _ => exact False.elim h
  | _ => exact False.elim h

theorem runs_alen {t ty : TypeId} {x : V} {u : Value} (g : Good c rows w ro ρ) (hx : Rd w ro ρ u x) (h : alen P t x fun v => k v rows) : Runs P (Builtin.len_ #[t] ty #[u]) c k w ro ρ := by
  have hslice : ∀ (a : Option Addr) (n cap : Nat), (uslice P t).isSome = true → (Builtin.len_ #[t] ty #[.slice a n cap]).run P w = .ok (.int .i64 n) w := by
    intro a n cap hs
    obtain ⟨e, he⟩ := Option.isSome_iff_exists.1 hs
    simp [Builtin.len_, run_underlying (uslice_under he), goInt]
  have harr : (∃ n e, uarr P t = some (n, e) ∧ k (.int .i64 n) rows) → Runs P (Builtin.len_ #[t] ty #[u]) c k w ro ρ := by
    rintro ⟨n, e, hu, hk⟩
    exact .same g (by simp [Builtin.len_, run_underlying (uarr_under hu), goInt]) .int hk
  cases x with
  | str s =>
    obtain rfl := rd_str hx
    exact .same g (by simp [Builtin.len_, run_underlying (ustr_under h.1), goInt, str_size]) .int h.2
  | nils => obtain rfl := rd_nils hx; exact .same g (hslice _ _ _ h.1) .int (by simpa using h.2)
  | sl n cs =>
    rcases rd_sl hx with ⟨rfl, rfl, -⟩ | ⟨b, o, cap, rfl, -⟩ | ⟨a, cap, rfl, rfl, -⟩
    · exact .same g (hslice _ _ _ h.1) .int h.2
    · exact .same g (hslice _ _ _ h.1) .int h.2
    · exact .same g (hslice _ _ _ h.1) .int h.2
  | osl id off n sz =>
    cases hx with
    | osl0 => exact .same g (hslice _ _ _ h.1) .int h.2
    | osl => exact .same g (hslice _ _ _ h.1) .int h.2
  | _ => exact harr h

end
end Go.VS
