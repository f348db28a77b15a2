/-
  VALUE SEMANTICS, 37: drawn regions, every order walked: for calls of which only what the outcome fulfils is told.
  Conditions: none; over any program.
-/
import Derived.Test.YtbdfghlkkdkpgaaDoorVs36
set_option linter.unusedSimpArgs false
set_option linter.unusedVariables false
namespace Go.VS
/-- Every order in which the operations may come up. -/
def aTree (P : Program) (ops : Array Oper) (K : KS) : Nat → Array Bool → KS
  | 0, listed => fun s rows => Region.ready .any ops listed = [] ∧ K s rows
  | n + 1, listed => fun s rows => (Region.ready .any ops listed = [] → K s rows) ∧ ∀ i ∈ Region.ready .any ops listed, ∀ o, ops[i]? = some o → arun P ops [o] s rows (aTree P ops K n (listed.setIfInBounds i true))
theorem aTree_sound {P : Program} {ops : Array Oper} {K : KS} {Q : Exit → KS} {c : Ctx} (go : GOk P c) : ∀ (n : Nat) (listed : Array Bool) (s : List V) (rows : List Row) (a : Act) (w : World), aTree P ops K n listed s rows → Conc c s rows a w → wpAny P .any ops (lift c (athen K Q)) n listed a w := by
  intro n
  induction n with
  | zero => exact fun listed s rows a w h hc => ⟨h.1, s, rows, h.2, hc⟩
  | succ n ih =>
    intro listed s rows a w h hc
    refine ⟨fun hn => ⟨s, rows, h.1 hn, hc⟩, fun i hi => ?_⟩
    obtain ⟨hi1, o, ho, hpre⟩ := mem_ready.1 hi
    have h := h.2 i hi o ho
    obtain ⟨ro, ρ, g, hs⟩ := hc
    unfold wpOp
    simp only [ho]
    simp only [arun] at h
    rcases wanted_of (c := c) hs h with ⟨hw, h⟩ | ⟨hw, h⟩
    · rw [if_pos hw]
      refine .inl (oper_wp (c := c) go hs g h ?_)
      intro v w' r rows' ro' ρ' h1 h2 h3
      exact ih _ _ _ _ _ h1 ⟨ro', ρ', h2, h3⟩
    · rw [if_neg (by simp [hw])]
      exact ih _ _ _ _ _ h ⟨ro, ρ, g, hs.put .junk o.dst⟩
theorem awp_region_any {P : Program} {n0 id : Nat} {Q : Exit → KS} {s : List V} {rows : List Row} {ops : Array Oper} (hm : P.follows .mixedOrders = true) (h : aTree P ops (Q .normal) ops.size (Array.replicate ops.size false) s rows) : AWp P n0 (.region id ops true) Q s rows := by
  intro c a w hn0 hc
  obtain ⟨ro, ρ, g, hs⟩ := hc
  refine wp_mono (Q := lift c (athen (Q .normal) Q)) (wp_region_any hm ?_) ?_
  · obtain ⟨g1, e1⟩ := g.drew (w.drawn + 1)
    exact aTree_sound hn0.2 _ _ s rows a _ h ⟨ro, ρ, g1, hs.ext e1⟩
  · rintro e a' w' ⟨s', rows', hQ, hc'⟩
    cases e <;> exact ⟨s', rows', hQ, hc'⟩
/-- One operation may come up now. -/
theorem aTree_one {P : Program} {ops : Array Oper} {K : KS} {n : Nat} {listed : Array Bool} {s : List V} {rows : List Row} (i : Nat) (o : Oper) (hr : Region.ready .any ops listed = [i]) (ho0 : ops.toList[i]? = some o) (h : arun P ops [o] s rows (aTree P ops K n (listed.setIfInBounds i true))) : aTree P ops K (n + 1) listed s rows := by
  have ho : ops[i]? = some o := by simpa using ho0
  refine ⟨fun h0 => by simp [hr] at h0, fun j hj o' ho' => ?_⟩
  rw [hr] at hj
  obtain rfl : j = i := by simpa using hj
  rw [ho] at ho'
  obtain rfl := Option.some.inj ho'
  exact h
/-- Two operations may come up now. -/
theorem aTree_two {P : Program} {ops : Array Oper} {K : KS} {n : Nat} {listed : Array Bool} {s : List V} {rows : List Row} (i j : Nat) (o p : Oper) (hr : Region.ready .any ops listed = [i, j]) (ho0 : ops.toList[i]? = some o) (hp0 : ops.toList[j]? = some p) (h : arun P ops [o] s rows (aTree P ops K n (listed.setIfInBounds i true))) (h2 : arun P ops [p] s rows (aTree P ops K n (listed.setIfInBounds j true))) : aTree P ops K (n + 1) listed s rows := by
  have ho : ops[i]? = some o := by simpa using ho0
  have hp : ops[j]? = some p := by simpa using hp0
  refine ⟨fun h0 => by simp [hr] at h0, fun k hk o' ho' => ?_⟩
  rw [hr] at hk
  rcases (show k = i ∨ k = j by simpa using hk) with rfl | rfl
  · rw [ho] at ho'
    obtain rfl := Option.some.inj ho'
    exact h
  · rw [hp] at ho'
    obtain rfl := Option.some.inj ho'
    exact h2
theorem aTree_three {P : Program} {ops : Array Oper} {K : KS} {n : Nat} {listed : Array Bool} {s : List V} {rows : List Row} (i j k : Nat) (o p q : Oper) (hr : Region.ready .any ops listed = [i, j, k]) (ho0 : ops.toList[i]? = some o) (hp0 : ops.toList[j]? = some p) (hq0 : ops.toList[k]? = some q) (h : arun P ops [o] s rows (aTree P ops K n (listed.setIfInBounds i true))) (h2 : arun P ops [p] s rows (aTree P ops K n (listed.setIfInBounds j true))) (h3 : arun P ops [q] s rows (aTree P ops K n (listed.setIfInBounds k true))) : aTree P ops K (n + 1) listed s rows := by
  have ho : ops[i]? = some o := by simpa using ho0
  have hp : ops[j]? = some p := by simpa using hp0
  have hq : ops[k]? = some q := by simpa using hq0
  refine ⟨fun h0 => by simp [hr] at h0, fun m hm o' ho' => ?_⟩
  rw [hr] at hm
  rcases (show m = i ∨ m = j ∨ m = k by simpa using hm) with rfl | rfl | rfl
  · rw [ho] at ho'
    obtain rfl := Option.some.inj ho'
    exact h
  · rw [hp] at ho'
    obtain rfl := Option.some.inj ho'
    exact h2
  · rw [hq] at ho'
    obtain rfl := Option.some.inj ho'
    exact h3
theorem aTree_end {P : Program} {ops : Array Oper} {K : KS} {n : Nat} {listed : Array Bool} {s : List V} {rows : List Row} (hr : Region.ready .any ops listed = []) (h : K s rows) : aTree P ops K n listed s rows := by
  cases n with
  | zero => exact ⟨hr, h⟩
  | succ n => exact ⟨fun _ => h, fun i hi => by rw [hr] at hi; simp at hi⟩
end Go.VS
