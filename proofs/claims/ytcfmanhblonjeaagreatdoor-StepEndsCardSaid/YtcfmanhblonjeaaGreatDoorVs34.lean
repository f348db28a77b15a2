/-
  VALUE SEMANTICS, 34: functions of which it is told only what their outcome fulfils.
  Conditions: none; over any program.
-/
import Derived.Test.YtcfmanhblonjeaaGreatDoorVs33
set_option linter.unusedSimpArgs false
set_option linter.unusedVariables false
namespace Go.VS

def EG (P : Program) (f : FuncId) (args : List V) (rows : List (List V)) (R : V → List (List V) → Prop) : Prop :=
  ACalls P f args (lives rows) fun r' rs => ∃ rows', R r' rows' ∧ r'.Pure ∧ rows'.length = rows.length ∧ (∀ x ∈ rows', Pures x) ∧ rs = lives rows'

section
variable {P : Program} {f : FuncId} {args : List V} {rows : List (List V)} {R : V → List (List V) → Prop}

theorem eg_of (h : ACalls P f args (lives rows) fun r' rs => ∃ r rows', R r rows' ∧ r.Pure ∧ rows'.length = rows.length ∧ (∀ x ∈ rows', Pures x) ∧ Le rows.length [r'] rs [r] (lives rows')) : EG P f args rows R := by
  refine ⟨h.1, fun w ro ρ vs g go ha => (h.2 w ro ρ vs g go ha).mono ?_⟩
  rintro e w' ⟨v, r', rs, ro', ρ', rfl, ⟨r, rows', hR, hp, hl, hps, ⟨m, hr, hm, hn⟩⟩, g', hv⟩
  have hlen : ρ.length = rows.length := by have := g.len; simpa using this
  obtain ⟨f1, f2⟩ := hm.fwd g'
  exact ⟨v, r, _, ro', _, rfl, ⟨rows', hR, hp, hl, hps, rfl⟩, g'.le hm (fun j hj => hn j (by rw [← hlen]; exact hj)), hv.ren hr.1 f1 f2⟩

theorem eg_body {fn : Func} {code : Code} (hf : P.funcs[f]? = some fn) (hb : fn.body = some code) (he : Enters P f)
    (h : AWp P rows.length code (aend P fn.results.toList fun r' rs => ∃ r rows', R r rows' ∧ r.Pure ∧ rows'.length = rows.length ∧ (∀ x ∈ rows', Pures x) ∧ Le rows.length [r'] rs [r] (lives rows')) (args ++ List.replicate (fn.ntmps - args.length) .junk) (lives rows)) : EG P f args rows R :=
  eg_of (acalls_body hf hb he (by rw [lives_length]; exact h))

theorem EG.mono {R' : V → List (List V) → Prop} (h : EG P f args rows R) (hr : ∀ r rows', R r rows' → R' r rows') : EG P f args rows R' :=
  ACalls.mono h fun r rs ⟨rows', h1, h2⟩ => ⟨rows', hr _ _ h1, h2⟩

theorem eg_mut {a row row' : List V} {r : V} (h : MCall P f a row row' r) (hr : r.Pure) (hp : Pures row') : EG P f a [row] fun r' rows' => r' = r ∧ rows' = [row'] :=
  ACalls.mono h fun r1 rs ⟨h1, h2⟩ => ⟨[row'], ⟨h1, rfl⟩, by rw [h1]; exact hr, rfl, by simpa using hp, h2⟩
theorem acall_eg {cap args2 : List V} {rowsC : List Row} {k : KV} (m : List Nat) (hc : EG P f args rows R) (hnd : m.Nodup)
    (hin : rowsOver (m.map some) rowsC (m.map some) (lives rows)) (ha : Rens false (m.map some) args (args2 ++ cap)) (hl : rows.length = m.length)
    (hk : ∀ r rows', R r rows' → r.Pure → rows'.length = rows.length → (∀ x ∈ rows', Pures x) → k r (setAll rowsC m rows')) : acall P false (.fn (.func f) cap) args2 rowsC k := by
  refine .inr ⟨rfl, m, args, lives rows, _, hnd, rowsRen_of ?_ hin, ha, hc, ?_⟩
  · have hfm : (m.map some).filterMap id = m := by
      induction m with
      | nil => rfl
      | cons a m ih => simp
    rw [hfm]; exact hnd
  rintro r1 rs ⟨rows', hR, hp, hlr, hps, rfl⟩
  obtain ⟨g1, g2, -⟩ := rowsOver_get hin
  have hlt : ∀ (j i : Nat), m[j]? = some i → i < rowsC.length := by
    intro j i hj
    have hjl : j < m.length := (List.getElem?_eq_some_iff.1 hj).1
    obtain ⟨r0, hr0⟩ := get_iff (l := lives rows) (i := j) (by rw [g1]; simpa using hjl)
    obtain ⟨r2, hr2, -⟩ := g2 j i r0 (by simp [hj]) hr0
    exact (List.getElem?_eq_some_iff.1 hr2).1
  have hll : (lives rows').length = m.length := by simp [hlr, hl]
  refine ⟨r1, setAll rowsC m rows', ⟨by omega, by rw [setAll_length, hll]; omega, ?_, ?_⟩, .pure hp, hk r1 rows' hR hp hlr hps⟩
  · intro j i q hj hq
    rw [hll] at hj ⊢
    obtain ⟨x, hx, rfl⟩ : ∃ x, rows'[j]? = some x ∧ q = .live x := by
      rw [lives, List.getElem?_map] at hq
      cases hz : rows'[j]? with
      | none => rw [hz] at hq; simp at hq
      | some x => rw [hz] at hq; simp at hq; exact ⟨x, rfl, hq.symm⟩
    have hjl := (List.getElem?_eq_some_iff.1 hx).1
    rw [behind_get, if_pos (by omega)] at hj
    have hmj : m[j]? = some i := by simpa using hj
    exact ⟨.live x, setAll_get m rows' rowsC j i x hnd hmj hx (hlt j i hmj), rens_self (hps x (List.mem_of_getElem? hx))⟩
  · intro i hi hn
    rw [setAll_ne m rows' rowsC i hn]

end
end Go.VS
