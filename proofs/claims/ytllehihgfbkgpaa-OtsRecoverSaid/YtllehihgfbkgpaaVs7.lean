/-
  VALUE SEMANTICS, 7: aggregates and slices that are built, made, cut, converted, grown, copied into.
  Conditions: none; over any program.
-/
import Derived.Test.YtllehihgfbkgpaaVs6
set_option linter.unusedSimpArgs false
set_option linter.unusedVariables false
namespace Go.VS

section
variable {P : Program} {c : Ctx} {rows : List Row} {w : World} {ro : Nat → Prop} {ρ : Rho} {k : KV}

theorem run_mapM_opt {α β : Type} (f : α → Sem β) (q : α → Option β) (hf : ∀ a b, q a = some b → (f a).run P w = .ok b w) : ∀ (l : List α) (r : List β), l.mapM q = some r → (l.mapM f).run P w = .ok r w
  | [], r, h => by simp at h; subst h; simp
  | a :: l, r, h => by
    simp only [List.mapM_cons, Option.bind_eq_bind, Option.bind_eq_some_iff, Option.pure_def, Option.some.injEq] at h
    obtain ⟨b, hb, bs, hbs, rfl⟩ := h
    simp [List.mapM_cons, hf a b hb, run_mapM_opt f q hf l bs hbs]

theorem runs_abuild {t : TypeId} {a : Operand → Value} {s : Operand → V} {parts : List (Nat × Operand)} (g : Good c rows w ro ρ) (hp : ∀ p ∈ parts, Rd w ro ρ (a p.2) (s p.2))
    (h : abuild P t s parts fun v => k v rows) : Runs P (Instr.build t (parts.map fun p => (p.1, a p.2)).toArray) c k w ro ρ := by
  obtain ⟨z, hz, hpl, h⟩ := h
  obtain ⟨v, hv, rfl, -⟩ := uzero_run (P := P) (w := w) hz
  obtain ⟨pl, hpl⟩ := Option.isSome_iff_exists.1 hpl
  obtain ⟨D, ds, r1, r2, r3⟩ := run_fill (place' := pl) parts v.cells _ hp (fun i q hq => by simpa [uplace, hpl] using hq) (rds_map_ofCell _) h
  refine .same (v := .agg D) g ?_ (Rds.agg r3) r2
  unfold uplaces at hpl
  split at hpl
  · rename_i fs hu
    simp only [Option.map_eq_some_iff] at hpl
    obtain ⟨l, hl, rfl⟩ := hpl
    have hm := run_mapM_opt (P := P) (w := w) (fun f : Field => do pure (f.offset, ← sizeOf f.type)) (fun f => (usz P f.type).map fun n => (f.offset, n))
      (fun f b hb => by
        simp only [Option.map_eq_some_iff] at hb
        obtain ⟨n, hn, rfl⟩ := hb
        simp [run_size hn]) fs.toList l hl
    have hm' : (fs.mapM fun f : Field => (do pure (f.offset, ← sizeOf f.type) : Sem (Nat × Nat))).run P w = .ok l.toArray w := by
      rw [Array.mapM_eq_mapM_toList]
      simp only [Sem.run_map, hm, Result.andThen_ok]
    simp only [Instr.build, Sem.run_bind, hv, Result.andThen_ok, run_underlying hu, hm']
    have e : (fun i : Nat => l.toArray[i]?) = fun i => l[i]? := by funext i; simp
    simp [e, r1]
  · rename_i n e hu
    simp only [Option.map_eq_some_iff] at hpl
    obtain ⟨m, hm, rfl⟩ := hpl
    simp only [Instr.build, Sem.run_bind, hv, Result.andThen_ok, run_underlying hu, run_size hm]
    simp [r1]
  · simp at hpl

theorem zeros_get {z : Array Value} {n : Nat} : ((Array.range (n * z.size)).map (z[· % z.size]!)).toList = (List.replicate n z.toList).flatten := by
  apply List.ext_getElem?
  intro i
  by_cases hz : z.size = 0
  · have : z = #[] := by simpa using hz
    subst this
    simp
  · have hpos : 0 < z.size := by omega
    by_cases hi : i < n * z.size
    · have hq : i / z.size < n := by rwa [Nat.div_lt_iff_lt_mul hpos]
      have hm : i % z.size < z.size := Nat.mod_lt _ hpos
      have hlhs : ((Array.range (n * z.size)).map (z[· % z.size]!)).toList[i]? = some z[i % z.size] := by
        simp [hi, hm]
      rw [hlhs]
      clear hlhs
      have key : ∀ (n i : Nat), i < n * z.size → (List.replicate n z.toList).flatten[i]? = some (z[i % z.size]'(Nat.mod_lt _ hpos)) := by
        intro n
        induction n with
        | zero => intro i h; omega
        | succ n ih =>
          intro i h
          rw [List.replicate_succ, List.flatten_cons, List.getElem?_append]
          by_cases hlt : i < z.size
          · rw [if_pos (by simpa using hlt)]
            simp [Nat.mod_eq_of_lt hlt, hlt]
          · rw [if_neg (by simpa using hlt)]
            have := ih (i - z.size) (by rw [Nat.succ_mul] at h; omega)
            simp only [Array.length_toList]
            rw [this]
            congr 2
            exact (Nat.mod_eq_sub_mod (by omega)).symm
      rw [key n i hi]
    · rw [List.getElem?_eq_none (by simp; omega), List.getElem?_eq_none (by simp [List.length_flatten, List.sum_replicate_nat]; omega)]

theorem zeros_map (n : Nat) (us : List Value) : zeros n (us.map ofCell) = ((List.replicate n us).flatten).map ofCell := by
  simp [zeros, List.map_flatten]

theorem zeros_length (n : Nat) (z : List V) : (zeros n z).length = n * z.length := by simp [zeros, List.length_flatten, List.sum_replicate_nat]

/-- A new block that is shown as a slice. -/
theorem runs_newSlice {id n cap sz : Nat} {us rest : List Value} {xs : List V} {e : TypeId} (g : Good c rows w ro ρ) (hf : Free rows id) (h : Rds w ro ρ us xs) (hn : n ≤ cap) (hc : cap * sz ≤ us.length + rest.length)
    (hk : k (.osl id 0 n sz) (rput rows id (.live xs))) : OpOk c k w ro ρ (.slice (some ⟨w.heap.size, 0, none⟩) n cap) (w.alloc (.cells (us ++ rest).toArray e)) := by
  obtain ⟨g1, e1⟩ := g.newRow hf h rest e
  exact ⟨.osl id 0 n sz, _, ro, _, hk, g1, .osl (get_rput g hf _) (fun h => by cases h) (fun h => by cases h) hn (fun x hx => by cases hx; exact ⟨rfl, rfl, .inr rfl, hn, by simpa using hc⟩), e1⟩

theorem range0 (f : Nat → Value) : (Array.range 0).map f = #[] := Array.eq_empty_of_size_eq_zero (by simp)

theorem runs_abuildSlice {t : TypeId} {len id : Nat} {a : Operand → Value} {s : Operand → V} {parts : List (Nat × Operand)} (g : Good c rows w ro ρ) (hp : ∀ p ∈ parts, Rd w ro ρ (a p.2) (s p.2))
    (h : abuildSlice P t len s parts id rows k) : Runs P (Instr.buildSlice t len (parts.map fun p => (p.1, a p.2)).toArray) c k w ro ρ := by
  obtain ⟨e, sz, z, hu, hs, hz, hzl, hle, hf, h⟩ := h
  obtain ⟨v, hv, rfl, -⟩ := uzero_run (P := P) (w := w) hz
  have hvs : v.cells.size = sz := by simpa using hzl
  have hz0 : Rds w ro ρ ((Array.range (len * v.cells.size)).map (v.cells[· % v.cells.size]!)).toList (zeros len (v.cells.toList.map ofCell)) := by
    rw [zeros_get, zeros_map]
    exact rds_map_ofCell _
  obtain ⟨D, ds, r1, r2, r3⟩ := run_fill (place' := fun i => some (i * sz, sz)) parts _ _ hp (fun i q hq => hq) hz0 h
  have hcs : (Array.range (len * sz)).map (v.cells[· % v.cells.size]!) = (Array.range (len * v.cells.size)).map (v.cells[· % v.cells.size]!) := by rw [hvs]
  rw [← hcs] at r1
  have hD : D.size = len * sz := by
    have hfill : ∀ (l : List (Nat × Value)) (C D : Array Value) (pl : Nat → Option (Nat × Nat)), Instr.fill pl C l = some D → D.size = C.size := by
      intro l
      induction l with
      | nil => intro C D pl h; simp [Instr.fill] at h; rw [h]
      | cons p l ih =>
        intro C D pl h
        obtain ⟨i, u⟩ := p
        simp only [Instr.fill] at h
        split at h
        · simp at h
        · split at h
          · simp at h
          · rw [ih _ _ _ h]
            have : ∀ (l : List (Value × Nat)) (o : Nat) (C : Array Value), (l.foldl (fun cs (p : Value × Nat) => cs.setIfInBounds (o + p.2) p.1) C).size = C.size := by
              intro l
              induction l with
              | nil => intro o C; rfl
              | cons q l ih => intro o C; rw [List.foldl_cons, ih]; simp
            rw [← Array.foldl_toList]
            exact this _ _ _
    rw [hfill _ _ _ _ r1]
    simp
  refine ⟨_, _, ?_, runs_newSlice (e := e) (rest := []) (n := len) (cap := len) (us := D.toList) g hf r3 (Nat.le_refl _) (by simp [hD]) r2⟩
  have hle' : ¬ len * sz > 2 ^ 24 := by omega
  simp only [Instr.buildSlice, Sem.run_bind, run_underlying (uslice_under hu), Result.andThen_ok, run_size hs]
  rw [if_neg hle']
  by_cases h0 : len * sz = 0
  · have hr0 : Instr.fill (fun i => some (i * sz, sz)) #[] (parts.map fun p => (p.1, a p.2)) = some D := by
      rw [← r1, h0, range0]
    simp only [h0, if_true]
    simp [range0, hr0, Go.newRow]
  · simp [h0, hv, r1, Go.newRow]

theorem runs_amakeSlice {t : TypeId} {l m : V} {ul um : Value} {id : Nat} (g : Good c rows w ro ρ) (hl : Rd w ro ρ ul l) (hm : Rd w ro ρ um m) (h : amakeSlice P t l m id rows k) : Runs P (Instr.makeSlice t ul um) c k w ro ρ := by
  cases l with
  | int k1 l =>
    cases m with
    | int k2 m =>
      obtain rfl := rd_int hl
      obtain rfl := rd_int hm
      obtain ⟨e, sz, by', z, hu, hs, hb, hz, hzl, h0, h1, h2, h3, hf, hk⟩ := h
      obtain ⟨v, hv, rfl, i, hi⟩ := uzero_run (P := P) (w := w) hz
      have hvs : v.cells.size = sz := by simpa using hzl
      have hbi : i.bytes = by' := by simpa [ubytes, hi] using hb
      have hsi : i.size = sz := by simpa [usz, hi] using hs
      have w1 : IntKind.i64.wrap l = l := by simp [IntKind.wrap, IntKind.signed, IntKind.bits]; omega
      have w2 : IntKind.i64.wrap m = m := by simp [IntKind.wrap, IntKind.signed, IntKind.bits]; omega
      have hD : Rds w ro ρ ((Array.range (m.toNat * v.cells.size)).map (v.cells[· % v.cells.size]!)).toList (zeros m.toNat (v.cells.toList.map ofCell)) := by
        rw [zeros_get, zeros_map]
        exact rds_map_ofCell _
      refine ⟨_, _, ?_, runs_newSlice (e := e) (rest := []) (n := l.toNat) (cap := m.toNat) (sz := sz) (us := _) g hf hD (by omega) (by simp [hvs]) hk⟩
      have hnm : ¬ m < 0 := by omega
      have hnl : ¬ l < 0 := by omega
      have hnlm : ¬ m < l := by omega
      have hbig : ¬ (281474976710656 : Int) < by' * m := by omega
      by_cases hz0 : m.toNat * sz = 0
      · have hemp : ((Array.range (m.toNat * v.cells.size)).map (v.cells[· % v.cells.size]!)) = #[] := by
          rw [hvs, hz0, range0]
        simp [Instr.makeSlice, run_underlying (uslice_under hu), asInt, asIntOf, typeInfo, sizeOf, hi, hbi, hsi, w1, w2, hnm, hnl, hnlm, hbig, hz0, Go.newRow, hemp]
        rw [range0]
      · simp [Instr.makeSlice, run_underlying (uslice_under hu), asInt, asIntOf, typeInfo, sizeOf, hi, hbi, hsi, w1, w2, hnm, hnl, hnlm, hbig, hz0, Go.newRow, hv, hvs]
        congr 2
        apply Array.ext'
        simp
    | _ => exact False.elim h
  | _ => exact False.elim h

end
end Go.VS
