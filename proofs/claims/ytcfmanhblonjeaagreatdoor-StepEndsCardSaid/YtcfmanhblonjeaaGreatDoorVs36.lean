/-
  VALUE SEMANTICS, 36: the end of a part as a join.
  Conditions: none; over any program.
-/
import Derived.Test.YtcfmanhblonjeaaGreatDoorVs35
set_option linter.unusedSimpArgs false
set_option linter.unusedVariables false
namespace Go.VS
theorem Conc.freeze {c : Ctx} {s : List V} {rows : List Row} {a : Act} {w : World} (hc : Conc c s rows a w) (id : Nat) {cs : List V} (hl : rows[id]? = some (.live cs)) (hp : Pures cs) : Conc c (s.map (fz id cs)) ((rows.set id .dead).map (fzRow id cs)) a w := by
  obtain ⟨ro, ρ, g, hs⟩ := hc
  obtain ⟨ro', ρ', g', hr⟩ := g.freeze hl hp
  refine ⟨ro', ρ', g', ?_, hs.nodefer⟩
  refine ⟨by simpa using hs.rds.1, fun i u x hu hx => ?_⟩
  rw [List.getElem?_map] at hx
  cases hq : s[i]? with
  | none => rw [hq] at hx; simp at hx
  | some v =>
    rw [hq] at hx
    simp at hx
    subst hx
    exact hr u v (hs.rds.2 i u v hu hq)
theorem awp_endJ {n0 : Nat} {P : Program} {Q : Exit → KS} {s : List V} {rows : List Row} {x : Code}
    (h : ∀ K : KS, (∀ s rows, Q .normal s rows → K s rows) → Join n0 K → AWp P n0 x (athen K Q) s rows) : AWp P n0 x Q s rows := by
  intro c a w hn hc
  refine wp_mono (h (fun s rows => ∀ a w, Conc c s rows a w → lift c Q .normal a w) (fun s rows hq a w hc => ⟨s, rows, hq, hc⟩) ⟨fun s rows s' rows' hl hk a w hc => ?_, @fun id cs s s' rows rows' hl hp hs hr hk a w hc => ?_, @fun s rows rows' e hk a w hc => ?_⟩ c a w hn hc) ?_
  · obtain ⟨rfl, -⟩ := hn
    exact hk a w (hc.le hl)
  · subst hs; subst hr
    exact hk a w (hc.freeze id hl hp)
  · subst e
    obtain ⟨ro, ρ, g, hs⟩ := hc
    exact hk a w ⟨ro, ρ, g.nz, hs⟩
  rintro e a' w' ⟨s', rows', hQ, hc'⟩
  cases e with
  | normal => exact hQ a' w' hc'
  | _ => exact ⟨s', rows', hQ, hc'⟩
end Go.VS
