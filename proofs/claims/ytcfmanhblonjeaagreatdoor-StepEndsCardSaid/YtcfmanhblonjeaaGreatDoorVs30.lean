/-
  VALUE SEMANTICS, 30: contracts of Go's library (the kit's shelf) as contracts of this layer; a law whose row lists variables.
  Conditions: none; over any program.
-/
import Derived.Test.YtcfmanhblonjeaaGreatDoorGd
import Derived.LaidLaws
import Derived.Shelf.Vars
set_option linter.unusedSimpArgs false
set_option linter.unusedVariables false
namespace Go.VS
open Go.ChangeShapes Go.WideShapes Go.RowKit

section
variable {P : Program} {f : FuncId} {args : List V} {r : V}

theorem pcall_same (he : Enters P f) (hp : r.Pure)
    (h : ∀ (w : World) (ro : Nat → Prop) (ρ : Rho) (vs : Array Value), GOk P ⟨w, ro, ρ⟩ → Rds w ro ρ vs.toList args →
      Calls P f vs w fun e w' => (w'.os = w.os ∧ w'.tape = w.tape ∧ w'.output = w.output ∧ w'.heap = w.heap) ∧ ∃ v, e = .returned v ∧ ∀ ro ρ, Rd w' ro ρ v r) : PCall P f args r := by
  refine ⟨hp, he, fun w ro ρ vs g go ha => (h w ro ρ vs go ha).mono ?_⟩
  rintro e w' ⟨⟨h1, h2, h3, h4⟩, v, rfl, hr⟩
  obtain ⟨g', -⟩ := g.world (w' := w') h1 h2 h3 (by rw [h4]; exact Nat.le_refl _) fun b _ _ => by rw [h4]
  exact ⟨v, r, [], ro, ρ, rfl, rfl, g', hr ro ρ⟩

theorem pcall_block (he : Enters P f) (hp : r.Pure)
    (h : ∀ (w : World) (ro : Nat → Prop) (ρ : Rho) (vs : Array Value), GOk P ⟨w, ro, ρ⟩ → Rds w ro ρ vs.toList args →
      Calls P f vs w fun e w' => (∃ o, w' = w.alloc o) ∧ ∃ v, e = .returned v ∧ ∀ (ro' : Nat → Prop) ρ, ro' w.heap.size → Rd w' ro' ρ v r) : PCall P f args r := by
  refine ⟨hp, he, fun w ro ρ vs g go ha => (h w ro ρ vs go ha).mono ?_⟩
  rintro e w' ⟨⟨o, rfl⟩, v, rfl, hr⟩
  obtain ⟨g1, e1⟩ := g.push o
  have hmay : ∀ b, ¬ (Ctx.may ⟨w, ro, ρ⟩ b) := fun b ⟨id, x, h, _⟩ => by
    have : ρ = [] := List.eq_nil_of_length_eq_zero g.len
    subst this
    simp at h
  have hρ : ρ = [] := List.eq_nil_of_length_eq_zero g.len
  subst hρ
  obtain ⟨g2, e2⟩ := g1.roMore (ro' := fun b => ro b ∨ b = w.heap.size) (fun b hb => .inl hb) (fun b hb => by
    rcases hb with hb | rfl
    · exact .inl hb
    · exact .inr ⟨by simp, fun id x h => by simp at h, .inr (Nat.le_refl _)⟩)
  exact ⟨v, r, [], _, [], rfl, rfl, g2, hr _ _ (.inr rfl)⟩

end

theorem gok_shaped {P : Program} {W : World} {g : Nat} {t : TypeId} {zero : Array Value} (h : W.ShapedOpen P) (hn : P.globalNamed "internal/bytealg.MaxLen" = some g) (hg : g < P.globals.size)
    (h0 : ((begin P (fun _ _ => 0) default).world.heap[g]?).bind Obj.row? = some (zero, t)) (hz : zero.size = 1)
    (hb : P.buildable t = true) (hc : P.cellTypes P.depth t = some [t]) (hu : P.underlying t = some (.int .i64)) : GOk P ⟨W, fun b => b < W.heap.size, []⟩ := by
  intro k hk
  rw [hn] at hk
  obtain rfl := Option.some.inj hk
  obtain ⟨m, hm⟩ := Go.Proofs.cell_of_shapedOpen_int h hg h0 hz hb hc hu
  refine ⟨?_, m, hm⟩
  show _ < W.heap.size
  unfold World.cell? at hm
  cases hw : W.heap[(⟨g, 0, none⟩ : Addr).block]? with
  | none => rw [hw] at hm; simp at hm
  | some o => exact (Array.getElem?_eq_some_iff.1 hw).1

theorem law_laid {C : Checked} {f : FuncId} {fn : Func} {s : ChangeSpec} {conds : List PathCond} {K : Nat} {tb : TypeId} {laid : List (String × DataW Unit)} (own : ownKnob C.prog.godebug = none) (hl : laidOutB C.prog = true) (noInit : C.prog.inits.idxOf? f = none)
    (hfn : C.prog.funcs[f]? = some fn) (hvars : s.vars = []) (hspec : ∀ (H : Type) (ds : List (DataW H)), ds.length = fn.params.toList.length → s.fn H ds = { results := [.lit (.bool true)], args := ds })
    (hres : fn.resultTypes = #[tb]) (htb : C.prog.underlying tb = some .bool) (hpl : (fn.params.toList.all fun t => plain C.prog K t && C.prog.readableRec t && decide (t < C.prog.types.size)) = true)
    (hgo : ∀ W : World, W.ShapedOpen C.prog → GOk C.prog ⟨W, fun b => b < W.heap.size, []⟩)
    (call : ∀ xs, FitsAll C.prog K fn.params.toList xs → PCall C.prog f xs (.bool true)) (os : Os) (started : os.Started) (H : Type) (enc : TypeId × Value → H)
    (witness : ∃ (w : World) (tape : Tape) (i : Input), w.os = os ∧ (w.forCall tape i).Shaped C.prog ∧ i.vars = [] ∧ Input.okWide C.prog (w.forCall tape i) .any w.heap.size f i ∧
      ((s.pre enc C.prog fn conds false (w.forCall tape i).memory i.args ∧ laidMetH C.prog laid (w.forCall tape i).memory) ∧ sizedMet enc C.prog fn (OpenSpec.ofChange s) false (w.forCall tape i).memory i.args) ∧ ({} : Assume).holds C.prog (lone (Frame.enter C.prog f i.args .normal) [] (w.forCall tape i))) :
    ReturnsInHanded {} C os f .any (fun w args => (s.pre enc C.prog fn conds false w args ∧ laidMetH C.prog laid w) ∧ sizedMet enc C.prog fn (OpenSpec.ofChange s) false w args) (s.post enc C.prog fn false true false false) := by
  refine returnsInHanded_of_calls own started noInit witness ?_
  intro w tape i _ hsh _ hok hpre hholds
  obtain ⟨_, _, _, fn', hfn', _, _, _, _, hval⟩ := hok
  have e : fn' = fn := Option.some.inj (hfn'.symm.trans hfn)
  subst e
  obtain ⟨⟨⟨ds, gs, before, hw, hcnd⟩, hx⟩, hz⟩ := hpre
  have hW := DataW.Whole.of_heap (w' := w.forCall tape i) (by rfl) hw
  have hsz := hz.weights hw
  generalize w.forCall tape i = W at *
  generalize i.args = args at *
  clear hw
  suffices hs : Calls C.prog f args W fun e W' => ∃ v, e = .returned v ∧ s.post enc C.prog fn' false true false false W args v W' by
    refine hs.mono fun e W' ⟨v, he, hp⟩ => ?_
    subst he
    exact ChangeSpec.post_blind hp
  have hW' := hW
  obtain ⟨p, q, hA, hV, rfl, hfz, hnd⟩ := hW
  rw [hvars] at hV
  obtain ⟨rfl, rfl⟩ := trodVars_none hV
  simp only [List.append_nil] at hW' hsz hfz
  have hpl' : ∀ t ∈ fn'.params.toList, plain C.prog K t = true ∧ C.prog.readableRec t = true ∧ t < C.prog.types.size := by
    intro t ht
    have := List.all_eq_true.1 hpl t ht
    simp only [Bool.and_eq_true, decide_eq_true_eq] at this
    exact ⟨this.1.1, this.1.2, this.2⟩
  have hvt : s.plain.varTypes C.prog = [] := by simp [DataSpec.varTypes, ChangeSpec.plain, hvars]
  have hvt2 : (OpenSpec.ofChange s).bare.plain.varTypes C.prog = [] := hvt
  rw [hvt2, List.append_nil] at hsz
  have hwt : ∀ n ∈ DataW.weightsEach C.prog fn'.params.toList ds, n ≤ reachBytes := fun n hn => by simpa using List.all_eq_true.1 hsz n hn
  obtain ⟨xs, hxs, hfit⟩ := trodAll_fits (fun t ht => (hpl' t ht).1) (fun j t v h1 h2 => hval j t v (by simpa using h1) (by simpa using h2)) hA hwt
  refine ((call xs hfit).below (w := W) (vs := args) hxs (hgo W hsh)).mono ?_
  rintro e W' ⟨rfl, hb⟩
  have hlt : ∀ x ∈ p, x.block < W.heap.size := fun x hx => hW'.lt x hx
  have hsp := hspec H ds (trodAll_len hA)
  have hold : ∀ x ∈ p, decide (x.block < W.heap.size) = true := fun x hx => by simpa using hlt x hx
  refine ⟨_, rfl, ds, [], p, [], p, [], hW', ?_, ?_, ?_, World.keptBut_mono (fun x hx => ⟨hx, .inr (by simpa using hx)⟩) (hb.frame (· ∈ p)), fun h => by cases h⟩
  · rw [hres]
    simp only [List.append_nil]
    rw [hsp]
    exact trodAll_cons_mk (shut_bool htb _) trodAll_mk0
  · simp only [List.append_nil]
    rw [hsp]
    exact trodAll_stays hl (fun t ht => (hpl' t ht).2) hA (fun x hx => hb.same (hlt x hx)) hold
  · simp only [List.append_nil]
    rw [hsp, hvars]
    rfl

end Go.VS
