/-
  STEP: policies, mappings, points from a deck (told by what they fulfil).
  Conditions: none.
-/
import Derived.Test.YtbdfghlkkdkpgaaDoorGe
import Derived.Test.YtbdfghlkkdkpgaaDoorGf
import Derived.Test.YtbdfghlkkdkpgaaDoorGj
import Derived.Test.YtbdfghlkkdkpgaaDoorGl
import Derived.Test.YtbdfghlkkdkpgaaDoorQ16
import Derived.Test.YtbdfghlkkdkpgaaDoorQ17
import Derived.Test.YtbdfghlkkdkpgaaDoorQ18
import Derived.Test.YtbdfghlkkdkpgaaDoorTab
import Derived.Test.YtbdfghlkkdkpgaaDoorGd
import Derived.Test.YtbdfghlkkdkpgaaDoorGi
import Derived.Test.YtbdfghlkkdkpgaaDoorVs33
import Derived.Test.YtbdfghlkkdkpgaaDoorVs34
set_option linter.all false
namespace Go.Stp
open Go.VS Go.Proofs.YtbdfghlkkdkpgaaDoor
/-- A function that draws from a deck: what it hands back fulfils Q. -/
def DC (P : Program) (f : FuncId) (rest : List V) (l : List Int) (Q : V → Prop) : Prop :=
  ∀ a, a ≤ l.length → EG P f (.ref 0 0 :: rest) [dk l a] fun r rows' => ∃ a', a' ≤ l.length ∧ Q r ∧ rows' = [dk l a']
theorem acall_dc {P : Program} {f : FuncId} {rest : List V} {l : List Int} {Q : V → Prop} {rows : List Row} {k : KV} {i a : Nat} (hc : DC P f rest l Q) (hrow : rows[i]? = some (.live (dk l a))) (ha : a ≤ l.length) (h : ∀ x ∈ rest, x.Pure)
    (hk : ∀ r a', a' ≤ l.length → Q r → r.Pure → k r (rows.set i (.live (dk l a')))) : acall P false (.fn (.func f) []) (.ref i 0 :: rest) rows k := by
  refine acall_eg [i] (hc a ha) (by simp) (by simp [rowsOver, hrow, rowRen_live, rens_pures]) (by rw [List.append_nil]; exact ⟨by simp, rens_self h⟩) rfl fun r rows' ⟨a', h1, h2, h3⟩ hp hl hps => ?_
  subst h3
  exact hk r a' h1 h2 hp
theorem dc_mut {P : Program} {f : FuncId} {rest : List V} {l : List Int} {Q : V → Prop} (h : ∀ a, a ≤ l.length → ∃ a' r, a' ≤ l.length ∧ Q r ∧ r.Pure ∧ MCall P f (.ref 0 0 :: rest) (dk l a) (dk l a') r) : DC P f rest l Q := fun a ha => by
  obtain ⟨a', r, h1, h2, h3, h4⟩ := h a ha
  exact (eg_mut h4 h3 (dk_pures _ _)).mono fun r1 rows' ⟨e1, e2⟩ => ⟨a', h1, by rw [e1]; exact h2, e2⟩
end Go.Stp
namespace Go.Proofs.YtbdfghlkkdkpgaaDoor
open Go.VS Go.Stp
set_option linter.all false
set_option maxRecDepth 100000
set_option maxHeartbeats 8000000
/-- What is known of a list of numbers. -/
structure DkOk (l : List Int) : Prop where
  len : l.length ≤ 140737488355328
  rng : ∀ k ∈ l, -9223372036854775808 ≤ k ∧ k ≤ 9223372036854775807
theorem gen_dc {l : List Int} (h : DkOk l) : DC Tryd.prog 19 [] l (fun r => ∃ g : Gn, WN g.name ∧ r = .agg g.c) := dc_mut fun a ha =>
  ⟨(genS l a).2, _, genS_le ha, ⟨_, genS_wn, rfl⟩, by simp, gen_call l a h.len ha h.rng⟩
attribute [local irreducible] arun arunD arunU AWp aend
end Go.Proofs.YtbdfghlkkdkpgaaDoor

