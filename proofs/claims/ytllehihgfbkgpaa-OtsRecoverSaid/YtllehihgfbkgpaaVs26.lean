/-
  VALUE SEMANTICS, 26: a row of the call's own that is written no more becomes read-only memory.
  Conditions: none; over any program.
-/
import Derived.Test.YtllehihgfbkgpaaVs25
set_option linter.unusedSimpArgs false
set_option linter.unusedVariables false
namespace Go.VS

/-- A value, with row `id` (cells `cs`) shown as read-only memory. -/
def fz (id : Nat) (cs : List V) : V → V
  | .osl j off n sz => if j = id ∧ off + n * sz ≤ cs.length then .sl n ((cs.drop off).take (n * sz)) else .osl j off n sz
  | .ref j off => if j = id ∧ cs ≠ [] ∧ off ≤ cs.length then .rptr (cs.drop off) else .ref j off
  | x => x

def fzRow (id : Nat) (cs : List V) : Row → Row
  | .live ds => .live (ds.map (fz id cs))
  | r => r

section
variable {c : Ctx} {rows : List Row} {w : World} {ro : Nat → Prop} {ρ : Rho}

theorem CellsAt.drop' {b o : Nat} {cs : List V} (h : CellsAt w ro ρ b o cs) (n : Nat) : CellsAt w ro ρ b (o + n) (cs.drop n) := by
  intro i v hv
  rw [List.getElem?_drop] at hv
  obtain ⟨u, hu, hr⟩ := h (n + i) v hv
  exact ⟨u, by rwa [Nat.add_assoc], hr⟩

theorem CellsAt.take' {b o : Nat} {cs : List V} (h : CellsAt w ro ρ b o cs) (n : Nat) : CellsAt w ro ρ b o (cs.take n) := by
  intro i v hv
  rw [List.getElem?_take] at hv
  split at hv
  · exact h i v hv
  · simp at hv

theorem Good.freeze (g : Good c rows w ro ρ) {id : Nat} {cs : List V} (hl : rows[id]? = some (.live cs)) (hp : Pures cs) :
    ∃ ro' ρ', Good c ((rows.set id .dead).map (fzRow id cs)) w ro' ρ' ∧ ∀ u v, Rd w ro ρ u v → Rd w ro' ρ' u (fz id cs v) := by
  obtain ⟨g1, e1⟩ := g.kill hl
  -- what is shown, and that it still reads
  have key : ∃ ro', Good c (rows.set id .dead) w ro' (ρ.set id .dead) ∧ Ext w ro ρ w ro' (ρ.set id .dead) ∧ ∀ u v, Rd w ro ρ u v → Rd w ro' (ρ.set id .dead) u (fz id cs v) := by
    rcases g.row id _ hl with ⟨x, hx, hat⟩ | ⟨hc, hv⟩
    · obtain ⟨g2, e2⟩ := g1.roAdd (k := x.b) (g.ownLt hx) (fun j y hy => by
        rw [List.getElem?_set] at hy
        split at hy
        · split at hy <;> simp at hy
        · rename_i hne
          exact fun e => hne (g.inj id j x y hx hy e.symm)) (g.ownNew id x hx).1
      have e := e1.trans e2
      refine ⟨_, g2, e, fun u v h => ?_⟩
      have hcells : CellsAt w (fun b => ro b ∨ b = x.b) [] x.b x.o cs := by
        intro i v hv
        obtain ⟨u, hu, hr⟩ := hat.cellsAt i v hv
        refine ⟨u, hu, (hr.pure (hp v (mem_of_getElem? hv)) []).ext ⟨fun b h => .inl h, fun _ _ => rfl, fun id y h => by simp at h⟩⟩
      unfold fz
      split
      · rename_i j off n sz
        split
        · rename_i hj
          obtain ⟨rfl, hle⟩ := hj
          rcases rd_osl g h hl with ⟨rfl, rfl, hc, -⟩ | ⟨y, o, cap, hy, haty, rfl, ho, hn, hm⟩
          · simp; exact .sl0
          · rw [hx] at hy
            simp at hy
            subst hy
            by_cases hc0 : cap = 0
            · subst hc0
              obtain rfl : n = 0 := by omega
              simp
              exact .slz
            · obtain rfl : o = x.o + off := by rcases ho with h | h; exact absurd h hc0; exact h
              exact CellsAt.sl ((hcells.drop' off).take' _) (.inr rfl) hn
        · exact h.ext e
      · rename_i j off
        split
        · rename_i hj
          obtain ⟨rfl, hne, hle⟩ := hj
          obtain ⟨y, hy, haty, rfl⟩ := rd_ref g h hl
          rw [hx] at hy
          simp at hy
          subst hy
          exact CellsAt.rptr (hcells.drop' off) (.inr rfl)
        · exact h.ext e
      · exact h.ext e
    · refine ⟨ro, g1, e1, fun u v h => ?_⟩
      subst hc
      unfold fz
      split
      · rename_i j off n sz
        split
        · rename_i hj
          obtain ⟨rfl, hle⟩ := hj
          rcases rd_osl g h hl with ⟨rfl, rfl, hc, -⟩ | ⟨y, o, cap, hy, -⟩
          · simp; exact .sl0
          · rw [hv] at hy; simp at hy
        · exact h.ext e1
      · rename_i j off
        split
        · rename_i hj; simp at hj
        · exact h.ext e1
      · exact h.ext e1
  obtain ⟨ro', g2, e2, hrd⟩ := key
  refine ⟨ro', _, ?_, hrd⟩
  refine ⟨g2.os, g2.tape, g2.output, g2.size, g2.old, g2.roLt, g2.roNew, by simpa using g2.len, g2.ownNew, g2.inj, fun j r hr => ?_, g2.ext⟩
  rw [List.getElem?_map] at hr
  cases hq : (rows.set id Row.dead)[j]? with
  | none => rw [hq] at hr; simp at hr
  | some r0 =>
    rw [hq] at hr
    simp at hr
    subst hr
    have h0 := g2.row j r0 hq
    cases r0 with
    | resv => exact h0
    | dead => exact h0
    | live ds =>
      have hne : id ≠ j := by
        rintro rfl
        rw [List.getElem?_set_self (List.getElem?_eq_some_iff.1 hl).1] at hq
        simp at hq
      rw [List.getElem?_set_ne hne] at hq
      rcases g.row j _ hq with ⟨y, hy, hat⟩ | ⟨rfl, hv⟩
      · refine .inl ⟨y, by rw [List.getElem?_set_ne hne]; exact hy, ?_⟩
        obtain ⟨C, t, fr, h1, h2, h3, h4, h5⟩ := hat
        refine ⟨C, t, fr, h1, h2, h3, by simpa using h4, fun i v hv => ?_⟩
        rw [List.getElem?_map] at hv
        cases hd : ds[i]? with
        | none => rw [hd] at hv; simp at hv
        | some v0 =>
          rw [hd] at hv
          simp at hv
          subst hv
          obtain ⟨u, hu, hr⟩ := h5 i v0 hd
          exact ⟨u, hu, hrd u v0 hr⟩
      · exact .inr ⟨by simp, by rw [List.getElem?_set_ne hne]; exact hv⟩

end

section
variable {P : Program} {n0 : Nat} {Q : Exit → KS} {s : List V} {rows : List Row}

/-- Row `id` becomes read-only memory. -/
theorem awp_freeze (id : Nat) {cs : List V} {code : Code} (hl : rows[id]? = some (.live cs)) (hp : Pures cs) (h : AWp P n0 code Q (s.map (fz id cs)) ((rows.set id .dead).map (fzRow id cs))) : AWp P n0 code Q s rows := by
  intro c a w hn hc
  obtain ⟨ro, ρ, g, hs⟩ := hc
  obtain ⟨ro', ρ', g', hr⟩ := g.freeze hl hp
  refine h c a w hn ⟨ro', ρ', g', ⟨?_, hs.nodefer⟩⟩
  refine ⟨by simpa using hs.rds.1, fun i u x hu hx => ?_⟩
  rw [List.getElem?_map] at hx
  cases hq : s[i]? with
  | none => rw [hq] at hx; simp at hx
  | some v =>
    rw [hq] at hx
    simp at hx
    subst hx
    exact hr u v (hs.rds.2 i u v hu hq)

end

end Go.VS
