/-
  VALUE SEMANTICS, 6: writing memory: stores, new blocks, slices that are made, grown, copied into.
  Conditions: none; over any program.
-/
import Derived.Test.YtllehihgfbkgpaaVs5
set_option linter.unusedSimpArgs false
set_option linter.unusedVariables false
namespace Go.VS

section
variable {P : Program} {c : Ctx} {rows : List Row} {w : World} {ro : Nat → Prop} {ρ : Rho} {k : KV}

theorem one_oneCell {u : Value} {x : V} (h : Rd w ro ρ u x) (ho : x.one = true) : u.oneCell' = true := by
  cases h <;> simp_all [V.one, Value.oneCell']

theorem Rds.oneCell {us : List Value} {xs : List V} (h : Rds w ro ρ us xs) (ho : ∀ x ∈ xs, x.one = true) : ∀ u ∈ us, u.oneCell' = true := by
  intro u hu
  obtain ⟨i, hi, rfl⟩ := List.mem_iff_getElem.1 hu
  have hlt : i < xs.length := by rw [← h.1]; exact hi
  exact one_oneCell (h.2 i _ xs[i] (by simp [hi]) (by simp [hlt])) (ho _ (by simp))

theorem rd_vcells {u : Value} {x : V} {xs : List V} (h : Rd w ro ρ u x) (hx : vcells x = some xs) : Rds w ro ρ u.cells.toList xs := by
  cases x with
  | agg cs =>
    simp [vcells] at hx
    subst hx
    obtain ⟨us, rfl, hus⟩ := rd_agg h
    exact hus
  | _ =>
    all_goals
      simp only [vcells] at hx
      split at hx
      · simp at hx
        subst hx
        rename_i ho
        have hu := one_oneCell h ho
        have he : u.cells = #[u] := by cases u <;> simp_all [Value.cells, Value.oneCell']
        rw [he]
        exact ⟨rfl, fun i a b ha hb => by cases i <;> simp_all⟩
      · simp at hx

/-! ### Stores -/

theorem lput_length : ∀ (vs cs : List V) (o : Nat), (lput cs o vs).length = cs.length
  | [], _, _ => rfl
  | v :: vs, cs, o => by rw [lput, lput_length vs]; simp

theorem lput_get : ∀ (vs cs : List V) (o j : Nat), o + vs.length ≤ cs.length → (lput cs o vs)[j]? = if o ≤ j ∧ j < o + vs.length then vs[j - o]? else cs[j]?
  | [], cs, o, j, _ => by simp [lput]; omega
  | v :: vs, cs, o, j, h => by
    simp at h
    rw [lput, lput_get vs _ _ j (by simp; omega)]
    by_cases h1 : o + 1 ≤ j ∧ j < o + 1 + vs.length
    · rw [if_pos h1, if_pos (by simp; omega)]
      rw [show j - o = (j - (o + 1)) + 1 by omega, List.getElem?_cons_succ]
    · rw [if_neg h1, List.getElem?_set]
      by_cases h2 : o = j
      · subst h2
        rw [if_pos rfl, if_pos (by omega), if_pos (by simp)]
        simp
      · rw [if_neg h2, if_neg (by simp; omega)]

theorem run_storeCells_blk {b o : Nat} {e : TypeId} {fr : Nat × Nat} : ∀ (vs : List Value) (i : Nat) (w : World) (C : Array Value), (∀ v ∈ vs, v.oneCell' = true) → w.heap[b]? = some (.cells C e fr) →
    (∀ i, i < C.size → ¬ (fr.1 ≤ i ∧ i < fr.2)) → o + i + vs.length ≤ C.size → ∃ w' C', (storeCells ⟨b, o, none⟩ vs i).run P w = .ok () w' ∧ w'.os = w.os ∧ w'.tape = w.tape ∧ w'.output = w.output ∧
      w'.heap.size = w.heap.size ∧ (∀ k, k ≠ b → w'.heap[k]? = w.heap[k]?) ∧ w'.heap[b]? = some (.cells C' e fr) ∧ C'.size = C.size ∧
      ∀ j : Nat, C'[j]? = if o + i ≤ j ∧ j < o + i + vs.length then vs[j - (o + i)]? else C[j]?
  | [], i, w, C, _, hb, _, _ => ⟨w, C, rfl, rfl, rfl, rfl, rfl, fun _ _ => rfl, hb, rfl, fun j => by simp; omega⟩
  | v :: vs, i, w, C, h1, hb, hf, hle => by
    simp at hle
    have hlt : o + i < C.size := by omega
    have hcell : w.cell? ⟨b, o + i, none⟩ = some C[o + i] := by simp [World.cell?, hb, hlt]
    have hfro : w.frozen? ⟨b, o + i, none⟩ = false := by
      have := hf (o + i) hlt
      simp [World.frozen?, hb]; omega
    have hbl : b < w.heap.size := (Array.getElem?_eq_some_iff.1 hb).1
    have hb1 : (w.setCell ⟨b, o + i, none⟩ v).heap[b]? = some (.cells (C.setIfInBounds (o + i) v) e fr) := by
      simp [World.setCell, Array.getElem?_modify, hb]
    have hst : (store ((⟨b, o, none⟩ : Addr).add i) v).run P w = .ok () (w.setCell ⟨b, o + i, none⟩ v) := by
      rw [add_eq, run_store P w _ v _ (h1 v (by simp)), hcell]
      simp [hfro]
    obtain ⟨w', C', r1, r2, r3, r4, r5, r6, r7, r8, r9⟩ := run_storeCells_blk (b := b) (o := o) vs (i + 1) (w.setCell ⟨b, o + i, none⟩ v) (C.setIfInBounds (o + i) v) (fun x hx => h1 x (by simp [hx])) hb1
      (by simpa using hf) (by simp; omega)
    refine ⟨w', C', ?_, r2, r3, r4, by rw [r5]; simp [World.setCell], fun k hk => ?_, r7, by simpa using r8, fun j => ?_⟩
    · simp only [storeCells, Sem.run_bind, hst, Result.andThen_ok, r1]
    · rw [r6 k hk]
      simp only [World.setCell, Array.getElem?_modify]
      rw [if_neg (fun h => hk h.symm)]
    · rw [r9]
      by_cases q : o + (i + 1) ≤ j ∧ j < o + (i + 1) + vs.length
      · rw [if_pos q, if_pos (by simp; omega), show j - (o + i) = (j - (o + (i + 1))) + 1 by omega, List.getElem?_cons_succ]
      · rw [if_neg q, Array.getElem?_setIfInBounds]
        by_cases q2 : o + i = j
        · subst q2
          rw [if_pos rfl, if_pos (by simp [hlt]), if_pos (by simp)]
          simp
        · rw [if_neg q2, if_neg (by simp; omega)]

/-- Cells of a row are written, at the model's side and at ours. -/
theorem Good.stored (g : Good c rows w ro ρ) {id off : Nat} {x : Own} {cs xs : List V} {vs : List Value} (hl : rows[id]? = some (.live cs)) (hx : ρ[id]? = some (.on x)) (hvs : Rds w ro ρ vs xs)
    (ho : ∀ y ∈ xs, y.one = true) (hle : off + xs.length ≤ cs.length) : ∃ w', (storeCells ⟨x.b, x.o + off, none⟩ vs).run P w = .ok () w' ∧ Good c (rows.set id (.live (lput cs off xs))) w' ro ρ ∧ Ext w ro ρ w' ro ρ := by
  obtain ⟨cs', hl', hat⟩ := g.alive hx
  rw [hl] at hl'
  simp at hl'
  subst hl'
  obtain ⟨C, e, fr, h1, h2, h3, h4, h5⟩ := hat
  obtain ⟨w', C', r1, r2, r3, r4, r5, r6, r7, r8, r9⟩ := run_storeCells_blk (P := P) (b := x.b) (o := x.o + off) vs 0 w C (hvs.oneCell ho) h1 (by rw [h2]; exact h3) (by rw [h2]; have := hvs.1; omega)
  refine ⟨w', r1, g.store hl hx r2 r3 r4 r5 r6 fun hext => ⟨C', e, fr, r7, by rw [r8, h2], h3, by rw [lput_length]; exact h4, fun i v hv => ?_⟩⟩
  rw [lput_get _ _ _ _ hle] at hv
  have hlen := hvs.1
  by_cases q : off ≤ i ∧ i < off + xs.length
  · rw [if_pos q] at hv
    obtain ⟨u, hu, hr⟩ := hvs.get hv
    refine ⟨u, ?_, hr.ext hext⟩
    rw [r9, if_pos (by omega), show x.o + i - (x.o + off + 0) = i - off by omega]
    exact hu
  · rw [if_neg q] at hv
    obtain ⟨u, hu, hr⟩ := h5 i v hv
    refine ⟨u, ?_, hr.ext hext⟩
    rw [r9, if_neg (by omega)]
    exact hu

/-- The same for an operation that hands nothing back. -/
def RunsU (P : Program) (s : Sem Unit) (c : Ctx) (k : KV) (w : World) (ro : Nat → Prop) (ρ : Rho) : Prop :=
  ∃ w', s.run P w = .ok () w' ∧ OpOk c k w ro ρ undef w'

theorem runs_astore {t : TypeId} {x v : V} {u uv : Value} (g : Good c rows w ro ρ) (hx : Rd w ro ρ u x) (hv : Rd w ro ρ uv v) (h : astore P t x v rows k) : RunsU P (Instr.storeAt t u uv) c k w ro ρ := by
  cases x with
  | ref id off =>
    obtain ⟨cs, vs, n, hl, hne, hvc, hs, hlen, hle, ho, hk⟩ := h
    obtain ⟨x, hx', hat, rfl⟩ := rd_ref g hx hl
    have hus := rd_vcells hv hvc
    obtain ⟨w', hr, hg, he⟩ := g.stored (P := P) (off := off) hl hx' hus ho (by omega)
    refine ⟨w', ?_, .junk, _, ro, ρ, hk, hg, .junk, he⟩
    have hsz : uv.cells.size = n := by have := hus.1; simp at this; omega
    simp [Instr.storeAt, Instr.sureAddr, storeVar, run_size hs, hsz, hr]
  | _ => exact False.elim h

/-! ### New blocks -/

theorem Good.newRow (g : Good c rows w ro ρ) {id : Nat} (hf : Free rows id) {us : List Value} {xs : List V} (h : Rds w ro ρ us xs) (rest : List Value) (e : TypeId) :
    Good c (rput rows id (.live xs)) (w.alloc (.cells (us ++ rest).toArray e)) ro (rput ρ id (.on ⟨w.heap.size, 0, us.length + rest.length⟩)) ∧
      Ext w ro ρ (w.alloc (.cells (us ++ rest).toArray e)) ro (rput ρ id (.on ⟨w.heap.size, 0, us.length + rest.length⟩)) := by
  obtain ⟨g1, e1⟩ := g.push (.cells (us ++ rest).toArray e)
  have hroN : ¬ ro w.heap.size := fun hr => by have := g.roLt _ hr; omega
  obtain ⟨g2, e2⟩ := g1.add (x := ⟨w.heap.size, 0, us.length + rest.length⟩) (cs := xs) hf (by
      refine ⟨(us ++ rest).toArray, e, (0, 0), by simp, by simp, fun i _ => by omega, by have := h.1; simp; omega, fun i v hv => ?_⟩
      obtain ⟨u, hu, hr⟩ := h.get hv
      refine ⟨u, ?_, hr.ext e1⟩
      have hlt := (List.getElem?_eq_some_iff.1 hu).1
      simp [List.getElem?_append_left hlt, hu]) hroN
    (fun j y hy hb => by have := g.ownLt hy; simp at hb; omega) (.inr g.size)
  exact ⟨g2, e1.trans e2⟩

theorem get_rput (g : Good c rows w ro ρ) {id : Nat} (hf : Free rows id) (p : Pl) : (rput ρ id p)[id]? = some p := by
  rw [rput_get (g.freeLe hf), if_pos rfl]

theorem runs_newVar {id : Nat} {us : Array Value} {xs : List V} {e : TypeId} (g : Good c rows w ro ρ) (hf : Free rows id) (h : Rds w ro ρ us.toList xs) (hk : k (.ref id 0) (rput rows id (.live xs))) :
    Runs P (do pure (.pointer (some (← Go.newRow e us)))) c k w ro ρ := by
  obtain ⟨g1, e1⟩ := g.newRow hf h [] e
  refine ⟨.pointer (some ⟨w.heap.size, 0, none⟩), _, ?_, .ref id 0, _, ro, _, hk, g1, ?_, e1⟩
  · simp [Go.newRow]
  · exact .ref (get_rput g hf _) (fun h => by cases h) (fun h => by cases h) (fun x hx => by cases hx; rfl)

theorem runs_abox {v : V} {u : Value} {id : Nat} {e : TypeId} (g : Good c rows w ro ρ) (hv : Rd w ro ρ u v) (h : abox v id rows k) : Runs P (Instr.box e u) c k w ro ρ := by
  obtain ⟨vs, hvc, hf, hk⟩ := h
  exact runs_newVar g hf (rd_vcells hv hvc) hk

theorem rd_ofCell (u : Value) : Rd w ro ρ u (ofCell u) := by
  unfold ofCell
  split
  · exact .bool
  · exact .int
  · rename_i s
    have : (.string s : Value) = .string ⟨s.data.toList.toArray⟩ := by simp
    rw [this]
    exact .str
  · exact .nilp
  · exact .nils
  · exact .nilf
  · exact .niface
  · exact .val

theorem rds_map_ofCell (us : List Value) : Rds w ro ρ us (us.map ofCell) :=
  ⟨by simp, fun i u x hu hx => by simp [hu] at hx; subst hx; exact rd_ofCell u⟩

theorem rd_ofConst (u : Value) : Rd w ro ρ u (ofConst u) := by
  unfold ofConst
  split
  · exact Rds.agg (rds_map_ofCell _)
  · exact Rds.tup (rds_map_ofCell _)
  · exact rd_ofCell _

theorem uzero_run {t : TypeId} {z : List V} (h : uzero P t = some z) : ∃ v, (zeroValue t).run P w = .ok v w ∧ z = v.cells.toList.map ofCell ∧ ∃ i, P.info? t = some i := by
  unfold uzero at h
  cases hi : P.info? t with
  | none => simp [hi] at h
  | some i =>
    simp only [hi, Option.bind_some] at h
    cases hz : i.zero with
    | none => simp [hz] at h
    | some v =>
      simp [hz] at h
      exact ⟨v, by simp [zeroValue, typeInfo, hi, hz], h.symm, i, rfl⟩

theorem runs_aalloc {t : TypeId} {id : Nat} {z : List V} (g : Good c rows w ro ρ) (hz : uzero P t = some z) (hf : Free rows id) (hk : k (.ref id 0) (rput rows id (.live z))) :
    Runs P (Instr.alloc t true (.tuple #[])) c k w ro ρ := by
  obtain ⟨v, hv, rfl, -⟩ := uzero_run (P := P) (w := w) hz
  have := runs_newVar (P := P) (e := t) g hf (rds_map_ofCell v.cells.toList) hk
  obtain ⟨r, w', hr, hok⟩ := this
  exact ⟨r, w', by simpa [Instr.alloc, hv, newVar] using hr, hok⟩

/-! ### Aggregates and slices that are built -/

theorem Rds.lput : ∀ {vs : List Value} {xs : List V} {us : List Value} {cs : List V} {o : Nat}, Rds w ro ρ us cs → Rds w ro ρ vs xs → ∀ (C : Array Value), C.toList = us →
    Rds w ro ρ ((vs.zipIdx.foldl (fun (D : Array Value) (p : Value × Nat) => D.setIfInBounds (o + p.2) p.1) C).toList) (lput cs o xs)
  | vs, xs, us, cs, o, hu, hv, C, hC => by
    have key : ∀ (vs : List Value) (xs : List V) (us : List Value) (cs : List V) (n : Nat) (C : Array Value), Rds w ro ρ us cs → Rds w ro ρ vs xs → C.toList = us →
        Rds w ro ρ (((vs.zipIdx n).foldl (fun (D : Array Value) (p : Value × Nat) => D.setIfInBounds (o + p.2) p.1) C).toList) (VS.lput cs (o + n) xs) := by
      intro vs
      induction vs with
      | nil =>
        intro xs us cs n C hu hv hC
        cases xs with
        | nil => simpa [VS.lput, hC] using hu
        | cons x xs => simp [Rds] at hv
      | cons v vs ih =>
        intro xs us cs n C hu hv hC
        cases xs with
        | nil => simp [Rds] at hv
        | cons x xs =>
          have hvx : Rd w ro ρ v x := hv.2 0 v x rfl rfl
          have hv' : Rds w ro ρ vs xs := ⟨by simpa using hv.1, fun i a b ha hb => hv.2 (i + 1) a b (by simpa using ha) (by simpa using hb)⟩
          simp only [List.zipIdx_cons, List.foldl_cons, VS.lput]
          have := ih xs (us.set (o + n) v) (cs.set (o + n) x) (n + 1) (C.setIfInBounds (o + n) v) ⟨by simp [hu.1], fun i a b ha hb => by
            rw [List.getElem?_set] at ha hb
            by_cases hi : o + n = i
            · subst hi
              simp at ha hb
              obtain ⟨_, rfl⟩ := ha
              obtain ⟨_, rfl⟩ := hb
              exact hvx
            · rw [if_neg hi] at ha hb
              exact hu.2 i a b ha hb⟩ hv' (by simp [hC])
          rw [show o + (n + 1) = o + n + 1 by omega] at this
          exact this
    simpa using key vs xs us cs 0 C hu hv hC

theorem run_fill {place place' : Nat → Option (Nat × Nat)} {a : Operand → Value} {s : Operand → V} : ∀ (parts : List (Nat × Operand)) (C : Array Value) (cs : List V) {K : List V → Prop},
    (∀ p ∈ parts, Rd w ro ρ (a p.2) (s p.2)) → (∀ i q, place i = some q → place' i = some q) → Rds w ro ρ C.toList cs → afill place s parts cs K →
    ∃ D ds, Instr.fill place' C (parts.map fun p => (p.1, a p.2)) = some D ∧ K ds ∧ Rds w ro ρ D.toList ds
  | [], C, cs, K, _, _, hC, h => ⟨C, cs, rfl, h, hC⟩
  | (i, x) :: parts, C, cs, K, hp, hpl, hC, h => by
    obtain ⟨off, sz, vs, h1, h2, h3, h4, h5⟩ := h
    have hx := rd_vcells (hp (i, x) (by simp)) h2
    have hlen := hx.1
    simp at hlen
    have hCl := hC.1
    simp at hCl
    obtain ⟨D, ds, r1, r2, r3⟩ := run_fill (place := place) (place' := place') (a := a) parts _ (lput cs off vs) (fun p hp' => hp p (by simp [hp'])) hpl (Rds.lput (o := off) hC hx C rfl) h5
    refine ⟨D, ds, ?_, r2, r3⟩
    simp only [List.map_cons, Instr.fill, hpl i _ h1]
    rw [if_neg (by simp; omega)]
    rw [← r1]
    congr 1
    rw [← Array.foldl_toList, Array.toList_zipIdx]

end
end Go.VS
