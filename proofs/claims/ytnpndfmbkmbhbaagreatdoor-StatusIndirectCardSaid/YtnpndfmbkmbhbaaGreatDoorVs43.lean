/-
 VALUE SEMANTICS, 43: nil slices as empty ones, also within the cells of a slice.
 Conditions: none.
-/
import Derived.Test.YtnpndfmbkmbhbaaGreatDoorGd
set_option maxRecDepth 100000
set_option maxHeartbeats 32000000
set_option linter.all false
namespace Go.VS
def nz1 : V → V
 | .nils => .sl 0 []
 | .sl n cs => .sl n (cs.map nz)
 | x => x
def nza1 : V → V
 | .agg cs => .agg (cs.map nz1)
 | x => nz1 x
theorem Rd.nz1 {w : World} {ro : Nat → Prop} {ρ : Rho} {u : Value} {v : V} (h : Rd w ro ρ u v) : Rd w ro ρ u (VS.nz1 v) := by
 cases v with
 | nils => exact h.nz
 | sl n cs =>
  cases h with
  | sl0 => exact .sl0
  | slz => exact .slz
  | sl h1 h2 h3 h4 h5 h6 =>
   refine .sl h1 h2 h3 (by simpa using h4) h5 fun i u x hu hx => ?_
   rw [List.getElem?_map] at hx
   cases hc : cs[i]? with
   | none => rw [hc] at hx; simp at hx
   | some y =>
    rw [hc] at hx
    simp at hx
    subst hx
    exact (h6 i u y hu hc).nz
 | _ => exact h
theorem rd_nza1 {w : World} {ro : Nat → Prop} {ρ : Rho} {u : Value} {v : V} (h : Rd w ro ρ u v) : Rd w ro ρ u (nza1 v) := by
 cases v with
 | agg cs =>
  obtain ⟨us, rfl, hl, hr⟩ : ∃ us : Array Value, u = .agg us ∧ us.size = cs.length ∧ ∀ (i : Nat) u x, us[i]? = some u → cs[i]? = some x → Rd w ro ρ u x := by
   cases h with
   | agg h1 h2 => exact ⟨_, rfl, h1, h2⟩
  refine .agg (by simpa using hl) fun i u x hu hx => ?_
  rw [List.getElem?_map] at hx
  cases hc : cs[i]? with
  | none => rw [hc] at hx; simp at hx
  | some y =>
   rw [hc] at hx
   simp at hx
   subst hx
   exact (hr i u y hu hc).nz1
 | _ => exact h.nz1
theorem pcall_nza1 {P : Program} {f : FuncId} {args args' : List V} {r : V} (h : PCall P f args' r) (e : args.map nza1 = args') : PCall P f args r := by
 subst e
 exact ⟨h.1, h.2.1, fun w ro ρ vs g go ha => h.2.2 w ro ρ vs g go ⟨by simpa using ha.1, fun i u x hu hx => by
  rw [List.getElem?_map] at hx
  cases hc : args[i]? with
  | none => rw [hc] at hx; simp at hx
  | some y =>
   rw [hc] at hx
   simp at hx
   subst hx
   exact rd_nza1 (ha.2 i u y hu hc)⟩⟩
end Go.VS
