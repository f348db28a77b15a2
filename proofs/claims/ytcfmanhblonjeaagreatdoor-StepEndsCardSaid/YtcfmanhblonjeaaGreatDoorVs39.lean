/-
  VALUE SEMANTICS, 39: functions that return one new row, of which it is told only what the outcome fulfils.
  Conditions: none; over any program.
-/
import Derived.Test.YtcfmanhblonjeaaGreatDoorVs38
set_option linter.unusedSimpArgs false
set_option linter.unusedVariables false
namespace Go.VS

def EN (P : Program) (f : FuncId) (args : List V) (rows : List (List V)) (R : V → List (List V) → List V → Prop) : Prop :=
  ACalls P f args (lives rows) fun r' rs => ∃ r rows' new, R r rows' new ∧ rows'.length = rows.length ∧ (∀ x ∈ rows', Pures x) ∧ Pures new ∧ r' = r ∧ rs = lives (rows' ++ [new])

section
variable {P : Program} {f : FuncId} {args : List V} {rows : List (List V)} {R : V → List (List V) → List V → Prop}

theorem en_of (h : ACalls P f args (lives rows) fun r' rs => ∃ r rows' new, R r rows' new ∧ rows'.length = rows.length ∧ (∀ x ∈ rows', Pures x) ∧ Pures new ∧ Le rows.length [r'] rs [r] (lives (rows' ++ [new]))) : EN P f args rows R := by
  refine ⟨h.1, fun w ro ρ vs g go ha => (h.2 w ro ρ vs g go ha).mono ?_⟩
  rintro e w' ⟨v, r', rs, ro', ρ', rfl, ⟨r, rows', new, hR, hl, hps, hpn, ⟨m, hr, hm, hn⟩⟩, g', hv⟩
  have hlen : ρ.length = rows.length := by have := g.len; simpa using this
  obtain ⟨f1, f2⟩ := hm.fwd g'
  exact ⟨v, r, _, ro', _, rfl, ⟨r, rows', new, hR, hl, hps, hpn, rfl, rfl⟩, g'.le hm (fun j hj => hn j (by rw [← hlen]; exact hj)), hv.ren hr.1 f1 f2⟩

theorem en_body {fn : Func} {code : Code} (hf : P.funcs[f]? = some fn) (hb : fn.body = some code) (he : Enters P f)
    (h : AWp P rows.length code (aend P fn.results.toList fun r' rs => ∃ r rows' new, R r rows' new ∧ rows'.length = rows.length ∧ (∀ x ∈ rows', Pures x) ∧ Pures new ∧ Le rows.length [r'] rs [r] (lives (rows' ++ [new]))) (args ++ List.replicate (fn.ntmps - args.length) .junk) (lives rows)) : EN P f args rows R :=
  en_of (acalls_body hf hb he (by rw [lives_length]; exact h))

theorem acall_en {cap args2 : List V} {rowsC : List Row} {k : KV} (m : List Nat) (hc : EN P f args rows R) (hnd : m.Nodup)
    (hin : rowsOver (m.map some) rowsC (m.map some) (lives rows)) (ha : Rens false (m.map some) args (args2 ++ cap)) (hl : rows.length = m.length)
    (hk : ∀ r rows' new, R r rows' new → rows'.length = rows.length → (∀ x ∈ rows', Pures x) → Pures new → ∃ rc, Ren true (behind m rowsC.length (m.length + 1)) r rc ∧ k rc (setAll rowsC m rows' ++ [.live new])) : acall P false (.fn (.func f) cap) args2 rowsC k := by
  refine .inr ⟨rfl, m, args, lives rows, _, hnd, rowsRen_of ?_ hin, ha, hc, ?_⟩
  · have hfm : (m.map some).filterMap id = m := by
      induction m with
      | nil => rfl
      | cons a m ih => simp
    rw [hfm]; exact hnd
  rintro r1 rs ⟨r, rows', new, hR, hlr, hps, hpn, rfl, rfl⟩
  obtain ⟨g1, g2, -⟩ := rowsOver_get hin
  have hlt : ∀ (j i : Nat), m[j]? = some i → i < rowsC.length := by
    intro j i hj
    have hjl : j < m.length := (List.getElem?_eq_some_iff.1 hj).1
    obtain ⟨r0, hr0⟩ := get_iff (l := lives rows) (i := j) (by rw [g1]; simpa using hjl)
    obtain ⟨r2, hr2, -⟩ := g2 j i r0 (by simp [hj]) hr0
    exact (List.getElem?_eq_some_iff.1 hr2).1
  have hll : (lives (rows' ++ [new])).length = m.length + 1 := by simp [hlr, hl]
  obtain ⟨rc, hren, hkk⟩ := hk r1 rows' new hR hlr hps hpn
  refine ⟨rc, setAll rowsC m rows' ++ [.live new], ⟨by omega, by rw [List.length_append, setAll_length, hll]; simp, ?_, ?_⟩, by rw [hll]; exact hren, hkk⟩
  · intro j i q hj hq
    rw [hll] at hj ⊢
    obtain ⟨x, hx, rfl⟩ : ∃ x, (rows' ++ [new])[j]? = some x ∧ q = .live x := by
      rw [lives, List.getElem?_map] at hq
      cases hz : (rows' ++ [new])[j]? with
      | none => rw [hz] at hq; simp at hq
      | some x => rw [hz] at hq; simp at hq; exact ⟨x, rfl, hq.symm⟩
    have hjl := (List.getElem?_eq_some_iff.1 hx).1
    rw [behind_get] at hj
    split at hj
    · rename_i hjm
      have hmj : m[j]? = some i := by simpa using hj
      rw [List.getElem?_append_left (by omega)] at hx
      refine ⟨.live x, ?_, rens_self (hps x (List.mem_of_getElem? hx))⟩
      rw [List.getElem?_append_left (by rw [setAll_length]; exact hlt j i hmj)]
      exact setAll_get m rows' rowsC j i x hnd hmj hx (hlt j i hmj)
    · split at hj
      · simp at hj
        subst hj
        rw [List.getElem?_append_right (by omega)] at hx
        have hj0 : j - rows'.length = 0 := by simp at hjl; omega
        rw [hj0] at hx
        simp at hx
        subst hx
        refine ⟨.live new, ?_, rens_self hpn⟩
        rw [List.getElem?_append_right (by rw [setAll_length]; omega), setAll_length, show rowsC.length + (j - m.length) - rowsC.length = 0 by omega]; rfl
      · simp at hj
  · intro i hi hn
    rw [List.getElem?_append_left (by rw [setAll_length]; exact hi), setAll_ne m rows' rowsC i hn]
end
end Go.VS
