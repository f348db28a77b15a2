/-
  VALUE SEMANTICS, 21: from a contract to a law's walk.
  Conditions: none; over any program.
-/
import Derived.Test.YtllehihgfbkgpaaVs20
import Derived.Below
set_option linter.unusedSimpArgs false
set_option linter.unusedVariables false
namespace Go.VS

/-- What a law's walk must give, from its contract. -/
theorem PCall.below {P : Program} {f : FuncId} {args : List V} (h : PCall P f args (.bool true)) {w : World} {vs : Array Value} (ha : Rds w (fun b => b < w.heap.size) [] vs.toList args) :
    Calls P f vs w fun e w' => e = .returned (.bool true) ∧ Go.RowKit.Below w.heap.size w w' := by
  refine (h.2.2 w (fun b => b < w.heap.size) [] vs (Good.start fun _ h => h) ha).mono ?_
  rintro e w' ⟨v, r, rows', ro', ρ', rfl, rfl, g, hr⟩
  refine ⟨by rw [rd_bool hr], g.os, g.tape, g.output, g.size, fun k hk => g.ext.heap k hk⟩

end Go.VS
