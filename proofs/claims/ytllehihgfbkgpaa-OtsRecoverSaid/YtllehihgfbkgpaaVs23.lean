/-
  VALUE SEMANTICS, 23: a law from its contract.
  Conditions: none; over any program.
-/
import Derived.Test.YtllehihgfbkgpaaVs22
import Derived.WalkKit
set_option linter.unusedSimpArgs false
set_option linter.unusedVariables false
namespace Go.VS
open Go.ChangeShapes Go.WideShapes Go.RowKit

def FitsV (P : Program) (f : Nat) (t : TypeId) (x : V) : Prop := match P.underlying t with
  | some (.struct _) => ∃ xs, Fits P f t xs ∧ x = .agg xs
  | some (.array _ _) => ∃ xs, Fits P f t xs ∧ x = .agg xs
  | _ => Fits P f t [x]

def FitsAll (P : Program) (f : Nat) : List TypeId → List V → Prop
  | [], [] => True
  | t :: ts, x :: xs => FitsV P f t x ∧ FitsAll P f ts xs
  | _, _ => False

theorem okWide_arr' {P : Program} {w : World} {r : Reach} {base : Nat} {t : TypeId} {v : Value} {n : Nat} {e : TypeId} (ht : P.underlying t = some (.array n e)) (h : Value.okWide P w r base t v) : ∃ cs, v = .agg cs := by
  unfold Value.okWide at h
  rw [ht] at h
  obtain ⟨cs, rfl, -⟩ := h
  exact ⟨cs, rfl⟩

section
variable {H : Type} {enc : TypeId × Value → H} {P : Program} {w : World} {base : Nat} {sp : Nat → Bool} {held : Bool}

theorem rds_single {u : Value} {xs : List V} {ro : Nat → Prop} {ρ : Rho} (h : Rds w ro ρ [u] xs) : ∃ x, xs = [x] ∧ Rd w ro ρ u x := by
  match xs, h with
  | [x], h => exact ⟨x, rfl, h.2 0 u x rfl rfl⟩
  | [], h => simp [Rds] at h
  | _ :: _ :: _, h => simp [Rds] at h

theorem val_fits {f : Nat} {r : Reach} {b0 : Nat} {t : TypeId} {v : Value} {d : DataW H} {ps : List MemPlace} (hp : plain P f t = true) (hv : Value.okWide P w r b0 t v) (h : DataW.Trod enc P w base sp held t v d ps)
    (hw : ∀ n ∈ d.weights P t, n ≤ reachBytes) : ∃ x, Rd w (fun b => b < w.heap.size) [] v x ∧ FitsV P f t x := by
  obtain ⟨fuel, h⟩ := h
  obtain ⟨xs, h1, h2⟩ := trod_fits f hp h hw
  cases f with
  | zero => simp [plain] at hp
  | succ f =>
    have one : v.cells = #[v] → (∀ fs, P.underlying t ≠ some (.struct fs)) → (∀ n e, P.underlying t ≠ some (.array n e)) → ∃ x, Rd w (fun b => b < w.heap.size) [] v x ∧ FitsV P (f + 1) t x := by
      intro hc hs ha
      rw [hc] at h1
      obtain ⟨x, rfl, hx⟩ := rds_single h1
      refine ⟨x, hx, ?_⟩
      unfold FitsV
      split
      · rename_i e; exact absurd e (hs _)
      · rename_i e; exact absurd e (ha _ _)
      · exact h2
    simp only [plain] at hp
    split at hp
    · rename_i ht; obtain ⟨b, rfl⟩ := okWide_bool ht hv; exact one rfl (by simp [ht]) (by simp [ht])
    · rename_i ht; obtain ⟨b, rfl⟩ := okWide_int ht hv; exact one rfl (by simp [ht]) (by simp [ht])
    · rename_i ht; obtain ⟨b, rfl⟩ := okWide_string ht hv; exact one rfl (by simp [ht]) (by simp [ht])
    · rename_i ht; obtain ⟨a, l, c, rfl⟩ := okWide_slice ht hv; exact one rfl (by simp [ht]) (by simp [ht])
    · rename_i ht
      obtain ⟨cs, rfl, -⟩ := okWide_struct ht hv
      exact ⟨.agg xs, Rd.agg (by simpa [Value.cells] using h1.1) (fun i u x hu hx => h1.2 i u x (by simpa [Value.cells] using hu) hx), by simp only [FitsV, ht]; exact ⟨xs, h2, rfl⟩⟩
    · rename_i ht
      obtain ⟨cs, rfl⟩ := okWide_arr' ht hv
      exact ⟨.agg xs, Rd.agg (by simpa [Value.cells] using h1.1) (fun i u x hu hx => h1.2 i u x (by simpa [Value.cells] using hu) hx), by simp only [FitsV, ht]; exact ⟨xs, h2, rfl⟩⟩
    · simp at hp

theorem trodAll_fits {f : Nat} {r : Reach} {b0 : Nat} : ∀ {ts : List TypeId} {vs : List Value} {ds : List (DataW H)} {ps : List MemPlace}, (∀ t ∈ ts, plain P f t = true) →
    (∀ (j : Nat) t v, ts[j]? = some t → vs[j]? = some v → Value.okWide P w r b0 t v) → DataW.TrodAll enc P w base sp held ts vs ds ps → (∀ n ∈ DataW.weightsEach P ts ds, n ≤ reachBytes) →
    ∃ xs, Rds w (fun b => b < w.heap.size) [] vs xs ∧ FitsAll P f ts xs
  | [], vs, ds, ps, hp, hv, h, hw => by
    obtain ⟨rfl, rfl, rfl⟩ := trodAll_nil h
    exact ⟨[], ⟨rfl, fun i u x h => by simp at h⟩, trivial⟩
  | t :: ts, vs, ds, ps, hp, hv, h, hw => by
    obtain ⟨v, vs, d, ds, p, q, rfl, rfl, rfl, h0, r0⟩ := trodAll_cons h
    simp only [DataW.weightsEach, List.mem_append] at hw
    obtain ⟨x, hx, hf⟩ := val_fits (hp t (by simp)) (hv 0 t v rfl rfl) h0 fun n hn => hw n (.inl hn)
    obtain ⟨xs, hxs, hfs⟩ := trodAll_fits (ts := ts) (fun t ht => hp t (by simp [ht])) (fun j t v h1 h2 => hv (j + 1) t v (by simpa using h1) (by simpa using h2)) r0 fun n hn => hw n (.inr hn)
    exact ⟨x :: xs, ⟨by simp [hxs.1], fun i u y hu hy => by
      cases i with
      | zero => simp at hu hy; subst hu; subst hy; exact hx
      | succ i => exact hxs.2 i u y (by simpa using hu) (by simpa using hy)⟩, hf, hfs⟩

theorem trodAll_stays (hl : laidOutB P = true) {W' : World} {sp' : Nat → Bool} : ∀ {ts : List TypeId} {vs : List Value} {ds : List (DataW H)} {ps : List MemPlace}, (∀ t ∈ ts, P.readableRec t = true ∧ t < P.types.size) →
    DataW.TrodAll enc P w base (fun _ => true) true ts vs ds ps → (∀ p ∈ ps, w.sameAt W' p) → (∀ p ∈ ps, sp' p.block = true) → DataW.TrodAll enc P W' base sp' true ts vs ds ps
  | [], vs, ds, ps, _, h, _, _ => by
    obtain ⟨rfl, rfl, rfl⟩ := trodAll_nil h
    exact trodAll_mk0
  | t :: ts, vs, ds, ps, hr, h, h1, h2 => by
    obtain ⟨v, vs, d, ds, p, q, rfl, rfl, rfl, h0, r0⟩ := trodAll_cons h
    exact trodAll_cons_mk (WideElems.Trod_stays hl (hr t (by simp)).1 (hr t (by simp)).2 h0 (fun p hp => h1 p (by simp [hp])) (fun p hp => h2 p (by simp [hp])))
      (trodAll_stays hl (fun t ht => hr t (by simp [ht])) r0 (fun p hp => h1 p (by simp [hp])) (fun p hp => h2 p (by simp [hp])))

end

theorem trodAll_len {H : Type} {enc : TypeId × Value → H} {P : Program} {w : World} {base : Nat} {sp : Nat → Bool} {held : Bool} : ∀ {ts : List TypeId} {vs : List Value} {ds : List (DataW H)} {ps : List MemPlace}, DataW.TrodAll enc P w base sp held ts vs ds ps → ds.length = ts.length
  | [], vs, ds, ps, h => by obtain ⟨rfl, rfl, rfl⟩ := trodAll_nil h; rfl
  | t :: ts, vs, ds, ps, h => by
    obtain ⟨v, vs, d, ds, p, q, rfl, rfl, rfl, h0, r0⟩ := trodAll_cons h
    simp [trodAll_len r0]

/-- A law, from its contract. -/
theorem law_lifted {C : Checked} {f : FuncId} {fn : Func} {s : ChangeSpec} {conds : List PathCond} {K : Nat} {tb : TypeId} (own : ownKnob C.prog.godebug = none) (hl : laidOutB C.prog = true) (noInit : C.prog.inits.idxOf? f = none)
    (hfn : C.prog.funcs[f]? = some fn) (hvars : s.vars = []) (hspec : ∀ (H : Type) (ds : List (DataW H)), ds.length = fn.params.toList.length → s.fn H ds = { results := [.lit (.bool true)], args := ds })
    (hres : fn.resultTypes = #[tb]) (htb : C.prog.underlying tb = some .bool) (hpl : (fn.params.toList.all fun t => plain C.prog K t && C.prog.readableRec t && decide (t < C.prog.types.size)) = true)
    (call : ∀ xs, FitsAll C.prog K fn.params.toList xs → PCall C.prog f xs (.bool true)) (os : Os) (started : os.Started) (H : Type) (enc : TypeId × Value → H)
    (witness : ∃ (w : World) (tape : Tape) (i : Input), w.os = os ∧ (w.forCall tape i).Shaped C.prog ∧ i.vars = [] ∧ Input.okWide C.prog (w.forCall tape i) .any w.heap.size f i ∧
      s.pre6 enc C.prog fn conds false (w.forCall tape i).memory i.args ∧ ({} : Assume).holds C.prog (lone (Frame.enter C.prog f i.args .normal) [] (w.forCall tape i))) :
    ReturnsInHanded {} C os f .any (s.pre6 enc C.prog fn conds false) (s.post enc C.prog fn false true false false) := by
  refine returnsInHanded_of_change_sized own started noInit hfn witness ?_
  intro W base args ds gs before hval hW hcnd hsz hholds
  have hW' := hW
  obtain ⟨p, q, hA, hV, rfl, hfz, hnd⟩ := hW
  rw [hvars] at hV
  obtain ⟨rfl, rfl⟩ := trodVars_none hV
  simp only [List.append_nil] at hW' hsz hfz
  have hpl' : ∀ t ∈ fn.params.toList, plain C.prog K t = true ∧ C.prog.readableRec t = true ∧ t < C.prog.types.size := by
    intro t ht
    have := List.all_eq_true.1 hpl t ht
    simp only [Bool.and_eq_true, decide_eq_true_eq] at this
    exact ⟨this.1.1, this.1.2, this.2⟩
  have hvt : s.plain.varTypes C.prog = [] := by simp [DataSpec.varTypes, ChangeSpec.plain, hvars]
  rw [hvt, List.append_nil] at hsz
  have hwt : ∀ n ∈ DataW.weightsEach C.prog fn.params.toList ds, n ≤ reachBytes := fun n hn => by simpa using List.all_eq_true.1 hsz n hn
  obtain ⟨xs, hxs, hfit⟩ := trodAll_fits (fun t ht => (hpl' t ht).1) (fun j t v h1 h2 => hval j t v (by simpa using h1) (by simpa using h2)) hA hwt
  refine ((call xs hfit).below (w := W) (vs := args) hxs).mono ?_
  rintro e W' ⟨rfl, hb⟩
  have hlt : ∀ x ∈ p, x.block < W.heap.size := fun x hx => hW'.lt x hx
  have hsp := hspec H ds (trodAll_len hA)
  have hold : ∀ x ∈ p, decide (x.block < W.heap.size) = true := fun x hx => by simpa using hlt x hx
  refine ⟨_, rfl, ds, [], p, [], p, [], hW', ?_, ?_, ?_, World.keptBut_mono (fun x hx => ⟨hx, .inr (by simpa using hx)⟩) (hb.frame (· ∈ p)), fun h => by cases h⟩
  · rw [hres]
    simp only [List.append_nil]
    rw [hsp]
    exact trodAll_cons_mk (shut_bool htb _) trodAll_mk0
  · simp only [List.append_nil]
    rw [hsp]
    exact trodAll_stays hl (fun t ht => (hpl' t ht).2) hA (fun x hx => hb.same (hlt x hx)) hold
  · simp only [List.append_nil]
    rw [hsp, hvars]
    rfl

end Go.VS
