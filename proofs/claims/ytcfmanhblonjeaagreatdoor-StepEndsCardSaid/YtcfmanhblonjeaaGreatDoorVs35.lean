/-
  VALUE SEMANTICS, 35: joins at which rows may still become read-only memory.
  Conditions: none; over any program.
-/
import Derived.Test.YtcfmanhblonjeaaGreatDoorVs34
set_option linter.unusedSimpArgs false
set_option linter.unusedVariables false
namespace Go.VS
structure Join (n0 : Nat) (K : KS) : Prop where
  le : ∀ s rows s' rows', Le n0 s rows s' rows' → K s' rows' → K s rows
  fz : ∀ (id : Nat) {cs : List V} {s s' : List V} {rows rows' : List Row}, rows[id]? = some (.live cs) → Pures cs → s.map (VS.fz id cs) = s' → (rows.set id .dead).map (fzRow id cs) = rows' → K s' rows' → K s rows
  nz : ∀ {s : List V} {rows rows' : List Row}, rows.map nzRow = rows' → K s rows' → K s rows
theorem awp_seqJ {n0 : Nat} {P : Program} {Q : Exit → KS} {s : List V} {rows : List Row} {x y : Code}
    (h : ∀ K : KS, (∀ s rows, AWp P n0 y Q s rows → K s rows) → Join n0 K → AWp P n0 x (athen K Q) s rows) : AWp P n0 (.seq x y) Q s rows := by
  refine awp_seq fun Ka hKa => awp_mono (h (AWp P n0 y Q) (fun _ _ h => h) ⟨fun _ _ _ _ hl h => awp_le hl h, @fun id cs s s' rows rows' hl hp hs hr h => awp_freeze' id hl hp hs hr h, @fun s rows rows' e h => awp_nz (by rw [e]; exact h)⟩) fun e s rows he => ?_
  cases e <;> first | exact he | exact hKa _ _ he
end Go.VS
