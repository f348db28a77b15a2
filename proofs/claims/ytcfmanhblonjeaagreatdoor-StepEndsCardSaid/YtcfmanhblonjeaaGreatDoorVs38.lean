/-
  VALUE SEMANTICS, 38: functions that only read, of which it is told only what their result fulfils.
  Conditions: none; over any program.
-/
import Derived.Test.YtcfmanhblonjeaaGreatDoorVs34
set_option linter.unusedSimpArgs false
set_option linter.unusedVariables false
namespace Go.VS

def EP (P : Program) (f : FuncId) (args : List V) (R : V → Prop) : Prop := ACalls P f args [] fun r' _ => R r' ∧ r'.Pure

section
variable {P : Program} {f : FuncId} {args : List V} {R R' : V → Prop}
theorem EP.mono (h : EP P f args R) (hr : ∀ r, R r → R' r) : EP P f args R' := ACalls.mono h fun r _ ⟨h1, h2⟩ => ⟨hr r h1, h2⟩
theorem EP.view (h : ACalls P f args [] fun r' rows' => ∃ r, R r ∧ r.Pure ∧ View rows' r' r) : EP P f args R := by
  refine ⟨h.1, fun w ro ρ vs g go ha => (h.2 w ro ρ vs g go ha).mono ?_⟩
  rintro e w' ⟨v, r', rows', ro', ρ', rfl, ⟨r, hR, hp, hv⟩, g', hr⟩
  have hρ : ρ = [] := List.eq_nil_of_length_eq_zero g.len
  subst hρ
  refine ⟨v, r, [], roAll ro' ρ', [], rfl, ⟨hR, hp⟩, ?_, hv.rd g' hr []⟩
  have hext : Ext w' ro' ρ' w' (roAll ro' ρ') ρ' := ⟨fun _ h => .inl h, fun _ _ => rfl, fun id y h _ => ⟨y, h, .inr rfl⟩⟩
  have he := g'.ext.trans hext
  refine ⟨g'.os, g'.tape, g'.output, g'.size, g'.old, fun b hb => ?_, fun b hb => ?_, rfl, fun id x h => by simp at h, fun i j x y h => by simp at h, fun id r h => by simp at h, ⟨he.keep, he.heap, fun id y h => by simp at h⟩⟩
  · rcases hb with hb | ⟨id, x, h, rfl⟩
    · exact g'.roLt b hb
    · exact g'.ownLt h
  · rcases hb with hb | ⟨id, x, h, rfl⟩
    · exact g'.roNew b hb
    · exact .inr (g'.ownNew id x h).1

end
end Go.VS
